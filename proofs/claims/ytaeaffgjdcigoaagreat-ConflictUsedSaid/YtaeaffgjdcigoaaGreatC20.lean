/- A part of the proof: ReE, ReF, ReG, ReH, AfA, LnA. -/
import Derived.Test.YtaeaffgjdcigoaaGreatC19
set_option linter.all false
namespace Go.Proofs.YtaeaffgjdcigoaaGreat
open Go
set_option maxRecDepth 100000
theorem s158 (a b:List UInt32)(ha:a.length<2^34)(hb:b.length<2^34):zE 132 [nat a,nat b] (nat (zK (Nat.gcd (val a) (val b)))):=by
 refine sF Tryz.f132 ?_;have ha':=xP (zX a) ha;have hb':=xP (zX b) hb;generalize hg:Nat.gcd (val a) (val b)=g;cbv;refine cA (iD a oM) ?_;cbv;refine cA (iD b oM) ?_;cbv;refine z3 (σ:=Nat×Nat) (fun z=>⟨[(0,nat (zK z.1)),(1,nat (zK z.2))],[]⟩) (fun z=>(zK z.1).length<2^34/\(zK z.2).length<2^34/\Nat.gcd z.1 z.2=g) (fun z=>z.2) (val a,val b) ⟨ha',hb',hg⟩ (.le ?_ trivial rfl) ?_;{cbv;exact okA};intro z hz;obtain⟨h1,h2,h3⟩:=hz;generalize z.1=x at *
 generalize z.2=y at *
 cbv;refine zG (fun h4=>?_) (fun h4=>?_)
 ·(have hy:y≠0:=fun e=>by subst e;(try dsimp only [zF] at *);grind [lm,yZ]);have hm:=uH x (rE hy)
  have c1:=s159 (zK x) (zK y) h1 h2 (by grind [zO]);rw[zO,zO] at c1;cbv;refine cA c1 ?_;cbv;refine⟨(y,x%y),⟨h2,xP (kE (zCZ hm)) h2,by grind [Nat.gcd_comm,Nat.gcd_rec]⟩,hm,.le ?_ trivial rfl⟩;cbv;exact okA
 ·have hy:y=0:=x8.1 (kR (by (try dsimp only [zF] at *);grind [zH]));subst hy;cbv
  (refine rC ?_;cbv)
  exact zR (by grind)
theorem s148 (neg:Bool)(m:List UInt32)(hm:m.length<2^40):zE 129 [.bool (fun _=>neg),nat m] (zv (x7 (sgn neg (val m)))):=by
 refine sF Tryz.f129 ?_;rw[zJ9];cbv;refine cA (iD m oM) ?_;cbv;refine z7 (fun h=>?_) (fun h=>?_)
 ·subst h;cbv
  (refine rC ?_;cbv)
  refine⟨zV ?_,lR,trivial⟩;rw[bQ];simp only[decide_eq_true_eq,zH,yU];rw[<-@x8 (val m),<-zNH]
  (try dsimp only [zF] at *)
  omega
 ·subst h;cbv
  (refine rC ?_;cbv)
  exact okA
theorem s88 (x:Int)(h1:-9223372036854775808<=x)(h2:x<9223372036854775808):zE 63 [.int .i64 (fun _=>x)] (zv (x7 x)):=by
 refine sF Tryz.f63 ?_;have hBB:B*B=18446744073709551616:=by decide
 have hl:(zK x.natAbs).length<=2:=len2.2 oM;have c1:=s148 true (zK x.natAbs) oM;have c2:=s148 false (zK x.natAbs) oM;have c3:=s149 x.natAbs oM;rw[zO] at c1 c2;have e1:x<0->sgn true x.natAbs=x:=fun h=>by show -(x.natAbs:Int)=x;omega
 have e2:¬x<0->sgn false x.natAbs=x:=fun h=>by show (x.natAbs:Int)=x;omega
 have n1:x<0->nx .u64 (0-nx .u64 x)=((x.natAbs:Nat):Int):=fun h=>by grind [uM]
 have n2:¬x<0->nx .u64 x=((x.natAbs:Nat):Int):=fun h=>by grind [uM]
 generalize x.natAbs=n at *
 cbv;refine zG (fun h=>?_) (fun h=>?_)
 ·rw[e1 h] at c1;generalize x7 x=W at *
  have n3:=n1 h;cbv;refine yP rfl (by exact⟨zC n3,trivial⟩) c3 rfl ?_;cbv;refine cA c1 ?_;cbv
  (refine rC ?_;cbv)
  exact okA
 ·rw[e2 h] at c2;generalize x7 x=W at *
  have n3:=n2 h;cbv;refine yP rfl (by exact⟨zC n3,trivial⟩) c3 rfl ?_;cbv;refine cA c2 ?_;cbv
  (refine rC ?_;cbv)
  exact okA
theorem s90 (x:Z)(hx:x.mag.length<2^40):zE 90 [zv x] (.int .i64 (fun _=>jL x.v)):=by
 refine sF Tryz.f90 ?_;have c1:=s148 x.neg x.mag hx;have e:sgn x.neg (val x.mag)=x.v:=rfl;rw[e] at c1;have hneg:(x7 x.v).neg=decide (x.v<0):=rfl;have hmag:(x7 x.v).mag.length=0↔x.v=0:=by show (zK x.v.natAbs).length=0↔_;rw[zNH,x8];omega
 have e0:x.v=0->jL x.v=0:=fun h=>by rw[h];rfl
 have e1:x.v<0->jL x.v=-1:=fun h=>by unfold jL;omega
 have e2:¬x.v<0->x.v≠0->jL x.v=1:=fun h h'=>by unfold jL;omega
 generalize jL x.v=s at *
 generalize x7 x.v=W at *
 generalize x.v=v at *
 obtain⟨a,m⟩:=x;obtain⟨w1,w2⟩:=W;simp only at hneg hmag;cbv;refine cA c1 ?_;cbv;refine zG (fun h=>?_) (fun h=>?_)
 ·cbv
  (refine rC ?_;cbv)
  exact zC (e0 (hmag.1 om)).symm
 ·have hv:v≠0:=fun e=>h (by have:=hmag.2 e;(try dsimp only [zF] at *);grind [zH]);cbv;refine zP (fun h2=>?_) (fun h2=>?_)
  ·cbv
   (refine rC ?_;cbv)
   exact zC (e1 (of_decide_eq_true (hneg.symm.trans h2))).symm
  ·cbv
   (refine rC ?_;cbv)
   exact zC (e2 (of_decide_eq_false (hneg.symm.trans h2)) hv).symm
theorem s101 (x y:Z)(hx:x.mag.length<2^38)(hy:y.mag.length<2^38):zE 61 [zv x,zv y] (zv (x7 (x.v+y.v))):=by
 refine sF Tryz.f61 ?_;obtain⟨n1,m1⟩:=x;obtain⟨n2,m2⟩:=y;have hv:Z.v ⟨n1,m1⟩+Z.v ⟨n2,m2⟩=sgn n1 (val m1)+sgn n2 (val m2):=rfl;have hl:=zOJ m1 m2;have hl1:=zDB m1 m2;have hl2:=zDB m2 m1;have hx':m1.length<2^38:=hx;have hy':m2.length<2^38:=hy;rw[hv];have c1:n1=n2->zE 129 [.bool (fun _=>n1),nat (zK (val m1+val m2))] (zv (x7 (sgn n1 (val m1)+sgn n2 (val m2)))):=by intro h;have:=s148 n1 (zK (val m1+val m2)) oM;rw[zO] at this;grind [sgn]
 have c2:n1≠n2->val m2<=val m1->zE 129 [.bool (fun _=>n1),nat (zK (val m1-val m2))] (zv (x7 (sgn n1 (val m1)+sgn n2 (val m2)))):=by
  (intro h hge;have:=s148 n1 (zK (val m1-val m2)) oM;rw[zO] at this;have e:sgn n1 (val m1-val m2)=sgn n1 (val m1)+sgn n2 (val m2):=by grind [sgn]);grind
 have c3:n1≠n2->¬val m2<=val m1->zE 129 [.bool (fun _=>n2),nat (zK (val m2-val m1))] (zv (x7 (sgn n1 (val m1)+sgn n2 (val m2)))):=by
  (intro h hge;have:=s148 n2 (zK (val m2-val m1)) oM;rw[zO] at this;have e:sgn n2 (val m2-val m1)=sgn n1 (val m1)+sgn n2 (val m2):=by grind [sgn]);simp_all
 have cs1:=s157 m1 m2 oM oM;have cs2:=s157 m2 m1 oM oM;have hE1:val m2<=val m1->(if val m2<=val m1 then (0:Int) else 2)=0:=fun h=>if_pos h;have hE2:¬val m2<=val m1->(if val m2<=val m1 then (0:Int) else 2)=2:=fun h=>if_neg h;generalize (if val m2<=val m1 then (0:Int) else 2)=E at *
 generalize (if val m1<=val m2 then (0:Int) else 2)=E' at *
 generalize sgn n1 (val m1)+sgn n2 (val m2)=T at *
 cbv;refine zG (fun h=>?_) (fun h=>?_)
 ·have h':=c1 h;generalize x7 T=W at *
  cbv;refine zN 8 (by cbv) ?_;cbv;refine dA (s156 m1 m2 oM oM) ?_;cbv;refine dA h' ?_;cbv
  (refine rC ?_;cbv)
  exact okA
 ·have h2:=c2 h;have h3:=c3 h;generalize x7 T=W at *
  cbv;refine cA cs1 ?_;cbv;refine zG (fun h4=>?_) (fun h4=>?_)
  ·(have hge:val m2<=val m1:=by omega);cbv
   refine cA (h2 hge) ?_;cbv
   (refine rC ?_;cbv)
   exact okA
  ·have hlt:¬val m2<=val m1:=fun e=>h4 (hE1 e);cbv;refine cA cs2 ?_;cbv;refine cA (h3 hlt) ?_;cbv
   (refine rC ?_;cbv)
   exact okA
def jM (d:List UInt32):List UInt32:=zK (if val d=0 then 1 else val d)
theorem bT (x:R):val (jM x.den)=x.d:=by unfold jM R.d;rw[zO]
theorem pN (d:List UInt32):(jM d).length<=d.length+1:=by unfold jM;split;{rw[zAO];simp};grind [zX]
theorem s100 (d:List UInt32)(hd:d.length<2^40):zE 60 [nat d] (nat (jM d)):=by
 refine sF Tryz.f60 ?_;have c1:=iD d oM;have e1:(zK (val d)).length=0->jM d=[1]:=fun h=>by unfold jM;rw[if_pos (x8.1 (kR h)),zAO]
 have e2:(zK (val d)).length≠0->jM d=zK (val d):=fun h=>by unfold jM;rw[if_neg (fun e=>h (by grind [yZ]))]
 generalize jM d=u at *
 generalize zK (val d)=p at *
 cbv;refine cA c1 ?_;cbv;refine zG (fun h=>?_) (fun h=>?_)
 ·have:=e1 om;subst this;cbv
  (refine rC ?_;cbv)
  exact zR rfl
 ·have:=e2 (by (try dsimp only [zF] at *);grind [zH]);subst this;cbv
  (refine rC ?_;cbv)
  exact lR
theorem s102 (neg:Bool)(num den:List UInt32)(hn:num.length<2^33)(hd:den.length<2^33)(h0:val den≠0):zE 62 [.bool (fun _=>neg),nat num,nat den] (rv (zJ (mkRat (sgn neg (val num)) (val den)))):=by
 refine sF Tryz.f62 ?_;rw[zAI h0];have hg0:Nat.gcd (val num) (val den)≠0:=fun e=>h0 (Nat.eq_zero_of_gcd_eq_zero_right e);have hgl:(zK (Nat.gcd (val num) (val den))).length<2^33:=xP (vD (kE (Nat.le_of_dvd (rE h0) (zJH _ _))) (zX den)) hd;have cg:=s158 num den oM oM;have cn:=s159 num (zK (Nat.gcd (val num) (val den))) oM oM (by grind [zO]);have cd:=s159 den (zK (Nat.gcd (val num) (val den))) oM oM (by grind [zO]);rw[zO] at cn cd;have hnz:val num/Nat.gcd (val num) (val den)=0↔val num=0:=by rw[Nat.div_eq_zero_iff_lt (rE hg0)];grind [Nat.gcd_le_left]
 have hdl:(zK (val den/Nat.gcd (val num) (val den))).length<2^33:=xP (vD (kE (iY _ _)) (zX den)) hd;generalize val den/Nat.gcd (val num) (val den)=D' at *
 generalize val num/Nat.gcd (val num) (val den)=N' at *
 generalize Nat.gcd (val num) (val den)=g at *
 generalize val num=N at *
 show wp _ _ (dK _ (.agg [.bool (fun _=>neg&&decide (N≠0)),nat (zK N'),nat (if D'=1 then [] else zK D')]) [] []);have hN0:decide (N≠0)=decide (0<(zK N').length):=by rw[decide_eq_decide,List.length_pos_iff,ne_eq,ne_eq,x8,hnz]
 rw[hN0];have hone:=@fR D';generalize hr2:(if D'=1 then [] else zK D')=r2;have hr2a:zK D'=[1]->r2=[]:=fun h=>by grind
 have hr2b:zK D'≠[1]->r2=zK D':=fun h=>by grind
 generalize zK D'=dl at *
 generalize zK N'=nl at *
 clear hr2 hone hN0 hnz;cbv;refine cA cg ?_;cbv;refine cA cn ?_;cbv;refine cA cd ?_;cbv;have one_of:∀ (h1:dl.length=1),((dl.getD 0 0).toNat:Int)=1↔dl=[1]:=by
  intro h1
  match dl,h1 with
  |[x],_ =>
   have e1:[x].getD 0 0=x:=rfl;rw[e1];constructor;{intro h2;have:x=1:=zC0.1 (by grind);rw[this]};{intro h2;rw[List.cons.inj h2 |>.1];rfl}
 refine zQ (fun h=>?_) (fun h=>?_)
 ·have h1:dl.length=1:=om;have ho:=one_of h1;cbv;refine xG 0 rfl oM ?_;cbv;refine zG (fun h2=>?_) (fun h2=>?_)
  ·have h3:=hr2a (ho.1 h2);cbv;refine z7 (fun h4=>?_) (fun h4=>?_)
   ·subst h4;cbv
    (refine rC ?_;cbv)
    exact⟨zV (by simp[zH]),lR,yW (by rw[h3];rfl),trivial⟩
   ·subst h4;cbv
    (refine rC ?_;cbv)
    exact⟨zM rfl,lR,yW (by rw[h3];rfl),trivial⟩
  ·have h3:=hr2b (fun e=>h2 (ho.2 e));cbv;refine z7 (fun h4=>?_) (fun h4=>?_)
   ·subst h4;cbv
    (refine rC ?_;cbv)
    exact⟨zV (by simp[zH]),lR,zR (by rw[h3]),trivial⟩
   ·subst h4;cbv
    (refine rC ?_;cbv)
    exact⟨zM rfl,lR,zR (by rw[h3]),trivial⟩
 ·have h3:=hr2b (fun e=>h (by rw[e];rfl));cbv;refine z7 (fun h4=>?_) (fun h4=>?_)
  ·subst h4;cbv
   (refine rC ?_;cbv)
   exact⟨zV (by simp[zH]),lR,zR (by rw[h3]),trivial⟩
  ·subst h4;cbv
   (refine rC ?_;cbv)
   exact⟨zM rfl,lR,zR (by rw[h3]),trivial⟩
theorem s47 (x:R)(hx:x.sz (2^32)):zE 113 [rv x] (rv (zJ x.q)):=by
 refine sF Tryz.f113 ?_;have h1:=hx.n;have h2:=hx.d;have h3:=pN x.den;have cu:=s100 x.den oM;have cq:=s102 x.neg x.num (jM x.den) oM oM (by rw[bT];exact x.d_ne);rw[bT] at cq;have e:mkRat (sgn x.neg (val x.num)) x.d=x.q:=rfl;rw[e] at cq;generalize zJ x.q=W at *
 generalize jM x.den=u at *
 obtain⟨neg,num,den⟩:=x;cbv;refine zN 8 (by cbv) ?_;cbv;refine dA cu ?_;cbv;refine dA cq ?_;cbv
 (refine rC ?_;cbv)
 exact okA
theorem s35 (x:R)(hx:x.num.length<2^40):zE 30 [rv x] (.int .i64 (fun _=>z4 x.q)):=by
 refine sF Tryz.f30 ?_;have c2:=s90 ⟨x.neg,x.num⟩ hx;have e:Z.v ⟨x.neg,x.num⟩=x.n:=rfl;rw[e,<-zSM] at c2;generalize z4 x.q=s at *
 obtain⟨neg,num,den⟩:=x;cbv;refine cA c2 ?_;cbv
 (refine rC ?_;cbv)
 exact lR
theorem s143 (x:R)(hx:x.sz (2^32)):zE 101 [rv x] (rv (zJ (-x.q))):=by
 refine sF Tryz.f101 ?_;have ca:=s47 ⟨!x.neg,x.num,x.den⟩ ⟨hx.n,hx.d⟩;rw[zT2] at ca;generalize zJ (-x.q)=W at *
 obtain⟨a,b,c⟩:=x;generalize hna:(!a)=na at *
 cbv;refine yP rfl (by exact⟨⟨vY hna.symm,lR,lR,trivial⟩,trivial⟩) ca rfl ?_;cbv
 (refine rC ?_;cbv)
 exact okA
theorem s77 (x y:R)(hx:x.sz (2^31))(hy:y.sz (2^31)):zE 84 [rv x,rv y] (rv (zJ (x.q*y.q))):=by
 refine sF Tryz.f84 ?_;have h1:=hx.n;have h2:=hx.d;have h3:=hy.n;have h4:=hy.d;have h7:=pN x.den;have h8:=pN y.den;have cux:=s100 x.den oM;have cuy:=s100 y.den oM;have cm:=s99 (jM x.den) (jM y.den) oM oM;have hml:=fS (jM x.den) (jM y.den);rw[bT,bT] at cm hml;have cn:=s99 x.num y.num oM oM;have hnl:=fS x.num y.num;have cq:=s102 (x.neg != y.neg) (zK (val x.num*val y.num)) (zK (x.d*y.d)) oM oM (by rw[zO];exact zFO x.d_ne y.d_ne);rw[zO,zO,<-zHN] at cq;have e:mkRat (sgn x.neg (val x.num)*sgn y.neg (val y.num)) (x.d*y.d)=x.q*y.q:=(zWW x y).symm;rw[e] at cq;have hb:(x.neg != y.neg)=!decide (x.neg=y.neg):=by grind
 clear hml hnl e;generalize zJ (x.q*y.q)=W at *
 generalize zK (x.d*y.d)=M at *
 generalize zK (val x.num*val y.num)=P at *
 generalize jM x.den=ux at *
 generalize jM y.den=uy at *
 obtain⟨a,b,c⟩:=x;obtain⟨a',b',c'⟩:=y;simp only at *
 generalize (a != a')=nb at *
 cbv;refine zN 18 (by cbv) ?_;cbv;refine dA cn ?_;cbv;refine dA cux ?_;cbv;refine dA cuy ?_;cbv;refine dA cm ?_;cbv;refine x9 (by exact⟨vY hb,lR,lR,trivial⟩) cq rfl ?_;cbv
 (refine rC ?_;cbv)
 exact okA
theorem s69 (x y:R)(hx:x.sz (2^32))(hy:y.sz (2^32)):zE 97 [rv x,rv y] (.bool (fun _=>decide (x=y))):=by
 refine sF Tryz.f97 ?_;have h1:=hx.n;have h2:=hx.d;have h3:=hy.n;have h4:=hy.d;have c1:=s130 x.num y.num oM oM;have c2:=s130 x.den y.den oM oM;obtain⟨a,b,c⟩:=x;obtain⟨a',b',c'⟩:=y;have hO:(decide ((⟨a,b,c⟩:R)=⟨a',b',c'⟩))=(decide (a=a')&&(decide (b=b')&&decide (c=c'))):=by grind
 rw[hO];simp only at c1 c2;generalize decide (b=b')=d1 at *
 generalize decide (c=c')=d2 at *
 clear hO h1 h2 h3 h4 hx hy;generalize hr:(decide (a=a')&&(d1&&d2))=r;cbv;refine zQ (fun h=>?_) (fun h=>?_)
 ·rw[show decide (a=a')=true from decide_eq_true h,yU] at hr;cbv;refine cA c1 ?_;cbv;refine z7 (fun h'=>?_) (fun h'=>?_)
  ·subst h';cbv;refine cA c2 ?_;cbv
   (refine rC ?_;cbv)
   exact zV (by grind)
  ·subst h';cbv
   (refine rC ?_;cbv)
   exact zM (by grind)
 ·rw[show decide (a=a')=false from decide_eq_false h,kJ] at hr;cbv
  (refine rC ?_;cbv)
  exact zM hr.symm
theorem s129 (x:R)(hx:x.sz (2^32)):zE 157 [rv x] (.bool (fun _=>x.ok)):=by
 refine sF Tryz.f157 ?_;have cc:=s47 x hx;have cs:=s69 x (zJ x.q) hx (zU (hx.fits (by decide)));have e:decide (x=zJ x.q)=x.ok:=rfl;rw[e] at cs;generalize x.ok=o at *
 generalize zJ x.q=W at *
 obtain⟨a,b,c⟩:=x;obtain⟨a',b',c'⟩:=W;cbv;refine zN 4 (by cbv) ?_;cbv;refine dA cc ?_;cbv;refine dA cs ?_;cbv
 (refine rC ?_;cbv)
 exact lR
theorem zRF (z:Int):zJ (z:Rat)=⟨(x7 z).neg,(x7 z).mag,[]⟩:=by unfold zJ x7;simp only[Rat.num_intCast,Rat.den_intCast,if_true];congr
theorem s32 (x:Int)(h1:-9223372036854775808<=x)(h2:x<9223372036854775808):zE 19 [.int .i64 (fun _=>x)] (rv (zJ (x:Rat))):=by
 refine sF Tryz.f19 ?_;have c1:=s88 x h1 h2;rw[zRF];generalize x7 x=y at *
 obtain⟨a,b⟩:=y;cbv;refine cA c1 ?_;cbv
 (refine rC ?_;cbv)
 exact okA
def iO (a b:Int):Rat:=Rat.divInt a b
theorem zR4 (a b:Bool)(n m:Nat):mkRat (sgn (a != b) n) m=iO (sgn a n) (sgn b m):=by
 have h1:∀ (z:Int),Rat.divInt z (m:Int)=mkRat z m:=fun z=>zFN z m;have h2:∀ (z:Int),Rat.divInt z (-(m:Int))=mkRat (-z) m:=fun z=>by rw[Rat.divInt_neg',h1]
 unfold iO;cases b;{rw[show sgn false m=(m:Int) from rfl,h1];simp_all};{rw[show sgn true m=-(m:Int) from rfl,h2];cases a;{rfl};{show mkRat (n:Int) m=mkRat (- -(n:Int)) m;grind}}
theorem s98 (x y:Z)(hx:x.mag.length<2^33)(hy:y.mag.length<2^33)(h0:y.v≠0):zE 152 [zv x,zv y] (.tup [rv (zJ (iO x.v y.v)),.int .i64 (fun _=>0)]):=by
 refine sF Tryz.f152 ?_;have cs:=s90 y oM;have hs:jL y.v≠0:=by grind [jL]
 have hv0:val y.mag≠0:=fun e=>h0 (by unfold Z.v;rw[e,zJQ]);have cq:=s102 (x.neg != y.neg) x.mag y.mag hx hy hv0;have e:mkRat (sgn (x.neg != y.neg) (val x.mag)) (val y.mag)=iO x.v y.v:=by exact zR4 _ _ _ _
 rw[e] at cq;have hb:(x.neg != y.neg)=!decide (x.neg=y.neg):=by grind
 generalize zJ (iO x.v y.v)=W at *
 generalize jL y.v=s at *
 obtain⟨a,b⟩:=x;obtain⟨a',b'⟩:=y;simp only at *
 generalize (a != a')=nb at *
 cbv;refine cA cs ?_;cbv;refine zG (fun h=>absurd h hs) (fun h=>?_);cbv;refine yP rfl (by exact⟨vY hb,lR,lR,trivial⟩) cq rfl ?_;cbv
 (refine rC ?_;cbv)
 exact okA
theorem s43 (x y:Int)(h1:-9223372036854775808<=x)(h2:x<9223372036854775808)(h3:-9223372036854775808<=y)(h4:y<9223372036854775808)(h0:y≠0):zE 83 [.int .i64 (fun _=>x),.int .i64 (fun _=>y)] (.tup [rv (zJ (iO x y)),.int .i64 (fun _=>0)]):=by
 refine sF Tryz.f83 ?_;have c1:=s88 x h1 h2;have c2:=s88 y h3 h4;have hl1:=zEE x h1 h2;have hl2:=zEE y h3 h4;have c3:=s98 (x7 x) (x7 y) oM oM (by grind [dF]);rw[dF,dF] at c3;generalize zJ (iO x y)=W at *
 generalize x7 x=X at *
 generalize x7 y=Y at *
 cbv;refine cA c1 ?_;cbv;refine cA c2 ?_;cbv;refine cA c3 ?_;cbv
 (refine rC ?_;cbv)
 exact okA
theorem s44 (x y:R)(hx:x.sz (2^31))(hy:y.sz (2^31)):zE 18 [rv x,rv y] (rv (zJ (x.q+y.q))):=by
 refine sF Tryz.f18 ?_;have h1:=hx.n;have h2:=hx.d;have h3:=hy.n;have h4:=hy.d;have h7:=pN x.den;have h8:=pN y.den;have cux:=s100 x.den oM;have cuy:=s100 y.den oM;have cx:=s99 x.num (jM y.den) oM oM;have cy:=s99 y.num (jM x.den) oM oM;have hxl:=fS x.num (jM y.den);have hyl:=fS y.num (jM x.den);rw[bT] at cx cy hxl hyl;have ca:=s101 ⟨x.neg,zK (val x.num*y.d)⟩ ⟨y.neg,zK (val y.num*x.d)⟩ (show (zK (val x.num*y.d)).length<_ by omega) (show (zK (val y.num*x.d)).length<_ by omega);have e1:Z.v ⟨x.neg,zK (val x.num*y.d)⟩=x.n*(y.d:Int):=by unfold Z.v R.n;rw[zO,zA2]
 have e2:Z.v ⟨y.neg,zK (val y.num*x.d)⟩=y.n*(x.d:Int):=by unfold Z.v R.n;rw[zO,zA2]
 rw[e1,e2] at ca;have cm:=s99 (jM x.den) (jM y.den) oM oM;have hml:=fS (jM x.den) (jM y.den);rw[bT,bT] at cm hml;have hsl:(x7 (x.n*(y.d:Int)+y.n*(x.d:Int))).mag.length<2^33:=by have a1:=xZ (zK (val x.num*y.d));have a2:=xZ (zK (val y.num*x.d));rw[zO] at a1 a2;obtain⟨k,hk⟩:∃ k,k=4294967297:=⟨_,rfl⟩;have b1:=uI a1 (dE w5 (show (zK (val x.num*y.d)).length<=k by omega));have b2:=uI a2 (dE w5 (show (zK (val y.num*x.d)).length<=k by omega));have e3:=Int.natAbs_add_le (x.n*(y.d:Int)) (y.n*(x.d:Int));rw[p9,p9,R.n,R.n,qE,qE,iX,iX] at e3;have e4:B^k*2<=B^k*B:=wG _ (by decide);have e5:(zK (x.n*(y.d:Int)+y.n*(x.d:Int)).natAbs).length<=k+1:=yF (by rw[uG B k];unfold R.n;generalize B^k=P at *;omega);show (zK (x.n*(y.d:Int)+y.n*(x.d:Int)).natAbs).length<2^33;omega
 have cq:=s102 (x7 (x.n*(y.d:Int)+y.n*(x.d:Int))).neg (x7 (x.n*(y.d:Int)+y.n*(x.d:Int))).mag (zK (x.d*y.d)) hsl oM (by rw[zO];exact zFO x.d_ne y.d_ne);have e6:sgn (x7 (x.n*(y.d:Int)+y.n*(x.d:Int))).neg (val (x7 (x.n*(y.d:Int)+y.n*(x.d:Int))).mag)=x.n*(y.d:Int)+y.n*(x.d:Int):=dF _;rw[e6,zO,<-zT4] at cq;clear e6 hsl hml e1 e2 hxl hyl;generalize zJ (x.q+y.q)=W at *
 generalize zK (x.d*y.d)=M at *
 generalize x7 (x.n*(y.d:Int)+y.n*(x.d:Int))=S at *
 generalize zK (val x.num*y.d)=W1 at *
 generalize zK (val y.num*x.d)=W2 at *
 generalize jM x.den=ux at *
 generalize jM y.den=uy at *
 obtain⟨a,b,c⟩:=x;obtain⟨a',b',c'⟩:=y;obtain⟨s1,s2⟩:=S;cbv;refine jS 10 (by cbv) (by cbv) ?_;cbv;refine dA cuy ?_;cbv;refine dA cx ?_;cbv;refine jS 10 (by cbv) (by cbv) ?_;cbv;refine dA cux ?_;cbv;refine dA cy ?_;cbv;refine cA ca ?_;cbv;refine zN 12 (by cbv) ?_;cbv;refine dA cux ?_;cbv;refine dA cuy ?_;cbv;refine dA cm ?_;cbv;refine dA cq ?_;cbv
 (refine rC ?_;cbv)
 exact okA
theorem s93 (x y:R)(hx:x.sz (2^31))(hy:y.sz (2^31)):zE 85 [rv x,rv y] (rv (zJ (x.q-y.q))):=by
 refine sF Tryz.f85 ?_;have cn:=s143 y (hy.mono oM);have ca:=s44 x (zJ (-y.q)) hx (zU (qD (hy.fits (by decide))));rw[z6,<-Rat.sub_eq_add_neg] at ca;generalize zJ (x.q-y.q)=W at *
 generalize zJ (-y.q)=V at *
 obtain⟨a,b,c⟩:=x;obtain⟨a',b',c'⟩:=y;cbv;refine zN 4 (by cbv) ?_;cbv;refine dA cn ?_;cbv;refine dA ca ?_;cbv
 (refine rC ?_;cbv)
 exact okA
theorem zV9 (a b:Rat):z4 (a-b)=uD a b:=by
 unfold z4 uD;have h1:a-b<0↔a<b:=by grind
 have h2:0<a-b↔b<a:=by grind
 simp only[h1,h2]
theorem s42 (x y:R)(hx:x.sz (2^31))(hy:y.sz (2^31)):zE 48 [rv x,rv y] (.int .i64 (fun _=>uD x.q y.q)):=by
 refine sF Tryz.f48 ?_;have ca:=s93 x y hx hy;have hf:=(uC (hx.fits (by decide)) (hy.fits (by decide))).lnum;have cs:=s35 (zJ (x.q-y.q)) (xP hf oM);rw[z6,zV9] at cs;clear hf;generalize uD x.q y.q=C at *
 generalize zJ (x.q-y.q)=W at *
 cbv;refine cA ca ?_;cbv;refine cA cs ?_;cbv
 (refine rC ?_;cbv)
 exact lR
def enc {α:Type} (p:α->List PV) (l:List α):List (List D):=l.map fun a=>wB (p a)
section
variable {α:Type} {p:α->List PV}
theorem zA (p:α->List PV)(l:List α):(enc p l).length=l.length:=by simp[enc]
theorem w6 {n:Nat}(hn:∀ a,(p a).length=n)(l:List α):Wid n (fun _=>enc p l):=⟨fun e he=>by simp only[enc,y8] at he;obtain⟨x,_,rfl⟩:=he;rw[gZ,hn]⟩
theorem gI (p:α->List PV)(l m:List α):enc p l++enc p m=enc p (l++m):=by simp[enc]
theorem pT (p:α->List PV)(l:List α)(n:Nat)(a:α):(enc p l).set n (wB (p a))=enc p (l.set n a):=by simp[enc,List.map_set]
theorem xU {n:Nat}{l:List α}{k:Int}{K:List PV->Prop}(j:Nat)(hk:k=(j:Int))(hj:j<l.length)(hf:∀ a,yR qW (p a)=true)(hn:∀ a,(p a).length=n) (hK:∀ a,l[j]?=some a->K (p a)):IdxOk n (fun _=>enc p l) (fun _=>k) K :=
 zTB j hk (p l[j]) (hf _) (hn _) (by simp[enc,hj]) (hK _ (by simp[hj]))
theorem j4 {n:Nat}{l:List α}{i:Nat}{K:List PV->Prop}(j:Nat)(hk:i=j)(hj:j<l.length)(hf:∀ a,yR qW (p a)=true)(hn:∀ a,(p a).length=n) (hK:∀ a,l[j]?=some a->K (p a)):ElOk n (fun _=>enc p l) (fun _=>i) K :=
 zW8 j hk (p l[j]) (hf _) (hn _) (by simp[enc,hj]) (hK _ (by simp[hj]))
end
structure A where
 ts:List (Int×R)
 c:R
structure F where
 ts:List (Int×Rat)
 c:Rat
theorem F.ext' {f g:F}(h1:f.ts=g.ts)(h2:f.c=g.c):f=g:=by cases f;simp_all
def tq (l:List (Int×R)):List (Int×Rat):=l.map fun t=>(t.1,t.2.q)
def tR (l:List (Int×Rat)):List (Int×R):=l.map fun t=>(t.1,zJ t.2)
def A.f (a:A):F:=⟨tq a.ts,a.c.q⟩
def fA (f:F):A:=⟨tR f.ts,zJ f.c⟩
theorem zL8 (l:List (Int×Rat)):tq (tR l)=l:=by simp[tq,tR,z6,Function.comp_def]
theorem kY (f:F):(fA f).f=f:=by simp[A.f,fA,zL8,z6]
def rc (x:R):List PV:=[.bool (fun _=>x.neg),nat x.num,nat x.den]
def tc (t:Int×R):List PV:=[.int .i64 (fun _=>t.1),.bool (fun _=>t.2.neg),nat t.2.num,nat t.2.den]
abbrev tsv (l:List (Int×R)):PV:=.sl (fun _=>enc tc l)
def ac (f:A):List PV:=[tsv f.ts,.bool (fun _=>f.c.neg),nat f.c.num,nat f.c.den]
abbrev av (f:A):PV:=.agg [tsv f.ts,.bool (fun _=>f.c.neg),nat f.c.num,nat f.c.den]
abbrev fv (f:F):PV:=av (fA f)
theorem gG (a:R):yR qW (rc a)=true:=rfl
theorem bG (a:R):(rc a).length=3:=rfl
theorem wM (a:Int×R):yR qW (tc a)=true:=rfl
theorem wI (a:Int×R):(tc a).length=4:=rfl
theorem gK (a:A):yR qW (ac a)=true:=rfl
theorem bK (a:A):(ac a).length=4:=rfl
structure Tsz (k:Nat) (l:List (Int×R)):Prop where
 len:l.length<2^38
 sz:∀ t,t∈l->t.2.sz k
structure A.sz (a:A) (k:Nat):Prop where
 t:Tsz k a.ts
 c:a.c.sz k
theorem Tsz.mono {k m:Nat}{l}(h:Tsz k l)(hm:k<=m):Tsz m l:=⟨h.len,fun t ht=>(h.sz t ht).mono hm⟩
theorem A.sz.mono {k m:Nat}{a:A}(h:a.sz k)(hm:k<=m):a.sz m:=⟨h.t.mono hm,h.c.mono hm⟩
structure Tfit (k:Nat) (l:List (Int×Rat)):Prop where
 len:l.length<2^38
 fit:∀ t,t∈l->Fits k t.2
structure F.fit (f:F) (k:Nat):Prop where
 t:Tfit k f.ts
 c:Fits k f.c
theorem Tfit.mono {k m:Nat}{l}(h:Tfit k l)(hm:k<=m):Tfit m l:=⟨h.len,fun t ht=>(h.fit t ht).mono hm⟩
theorem F.fit.mono {k m:Nat}{a:F}(h:a.fit k)(hm:k<=m):a.fit m:=⟨h.t.mono hm,h.c.mono hm⟩
theorem Tfit.tR {k:Nat}{l}(h:Tfit k l):Tsz k (tR l):=⟨by simpa[Go.Proofs.YtaeaffgjdcigoaaGreat.tR] using h.len,fun t ht=>by simp only[Go.Proofs.YtaeaffgjdcigoaaGreat.tR,y8] at ht;obtain⟨u,hu,rfl⟩:=ht;exact zU (h.fit u hu)⟩
theorem F.fit.fA {k:Nat}{f:F}(h:f.fit k):(fA f).sz k:=⟨h.t.tR,zU h.c⟩
theorem Tsz.fit {k:Nat}{l}(h:Tsz k l)(hk:1<=k):Tfit k (tq l):=⟨by simpa[tq] using h.len,fun t ht=>by simp only[tq,y8] at ht;obtain⟨u,hu,rfl⟩:=ht;exact (h.sz u hu).fits hk⟩
theorem A.sz.fit {k:Nat}{a:A}(h:a.sz k)(hk:1<=k):a.f.fit k:=⟨h.t.fit hk,h.c.fits hk⟩
def vT (vars:Int):Int->List (Int×R)->Bool
 |_,[]=>true| p,t::r=>decide (0<=t.1)&&decide (t.1<vars)&&decide (p<t.1)&&decide (t.2.q≠0)&&t.2.ok&&vT vars t.1 r
def A.valid (vars:Int) (a:A):Bool:=vT vars (-1) a.ts&&a.c.ok
structure Cn (l:List (Int×Rat)):Prop where
 s:l.Pairwise (fun a b=>a.1<b.1)
 n:∀ t,t∈l->t.2≠0
theorem Cn.nil:Cn []:=⟨.nil,by simp⟩
theorem Cn.tail {t l}(h:Cn (t::l)):Cn l:=⟨(zB9.1 h.s).2,fun u hu=>h.n u (xN _ hu)⟩
theorem Cn.lt {t l}(h:Cn (t::l)):∀ u,u∈l->t.1<u.1:=(zB9.1 h.s).1
theorem Cn.hd {t l}(h:Cn (t::l)):t.2≠0:=h.n t xM
theorem Cn.cons {t l}(h:Cn l)(h1:∀ u,u∈l->t.1<u.1)(h2:t.2≠0):Cn (t::l) :=
 ⟨zB9.2 ⟨h1,h.s⟩,fun u hu=>by rcases yI.1 hu with rfl|hu <;> first|exact h2|exact h.n u hu⟩
def co:List (Int×Rat)->Int->Rat
 |[],_=>0| t::r,v=>(if t.1=v then t.2 else 0)+co r v
theorem pX {l:List (Int×Rat)}{v:Int}(h:∀ t,t∈l->t.1≠v):co l v=0:=by
 induction l with
 |nil=>rfl| cons t r ih =>
  simp only[co,if_neg (h t xM),ih fun u hu=>h u (xN _ hu)];grind
theorem dR {t:Int×Rat}{l}(h:Cn (t::l)):co (t::l) t.1=t.2:=by simp only[co,if_true,pX fun u hu=>(Int.ne_of_lt (h.lt u hu)).symm];grind
theorem Cn.ext:∀ {l m:List (Int×Rat)},Cn l->Cn m->(∀ v,co l v=co m v)->l=m
 |[],[],_,_,_=>rfl| [],b::m,_,hm,h=>by have:=h b.1;rw[dR hm] at this;exact absurd this.symm hm.hd| a::l,[],hl,_,h=>by have:=h a.1;rw[dR hl] at this;exact absurd this hl.hd| a::l,b::m,hl,hm,h=>by
  have h1:a.1=b.1:=by
   rcases Int.lt_trichotomy a.1 b.1 with c|c|c
   ·have:=h a.1;rw[dR hl,pX (l:=b::m) (fun t ht=>by
     rcases yI.1 ht with rfl|ht;{omega}
     ·have:=hm.lt t ht;omega)] at this
    exact absurd this hl.hd
   {exact c}
   ·have:=h b.1;rw[dR hm,pX (l:=a::l) (fun t ht=>by
     rcases yI.1 ht with rfl|ht;{omega}
     ·have:=hl.lt t ht;omega)] at this
    exact absurd this.symm hm.hd
  (have h2:a.2=b.2:=by grind [dR]);have h3:a=b:=Prod.ext h1 h2
  subst h3;congr 1;refine Cn.ext hl.tail hm.tail fun v=>?_;have:=h v;grind [co]
def pc (v:Int) (q:Rat) (r:List (Int×Rat)):List (Int×Rat):=if q=0 then r else (v,q)::r
theorem lT (v:Int)(q:Rat)(r)(w:Int):co (pc v q r) w=(if v=w then q else 0)+co r w:=by unfold pc;split;{grind};{rfl}
theorem Cn.pc {v:Int}{q:Rat}{r}(h:Cn r)(h1:∀ u,u∈r->v<u.1):Cn (pc v q r):=by unfold Go.Proofs.YtaeaffgjdcigoaaGreat.pc;split;{exact h};{exact h.cons h1 oM}
theorem qF {v:Int}{q:Rat}{r u}(h:u∈pc v q r):u=(v,q)\/u∈r:=by grind [pc]
def mrg (c:Rat):List (Int×Rat)->List (Int×Rat)->List (Int×Rat)
 |[],[]=>[]| a::aa,[]=>pc a.1 a.2 (mrg c aa [])| [],b::bb=>pc b.1 (b.2*c) (mrg c [] bb)| a::aa,b::bb=>if a.1<b.1 then pc a.1 a.2 (mrg c aa (b::bb)) else if b.1<a.1 then pc b.1 (b.2*c) (mrg c (a::aa) bb) else pc a.1 (a.2+b.2*c) (mrg c aa bb)
termination_by a b=>a.length+b.length
theorem dQ (c:Rat):∀ (a b:List (Int×Rat)) (v:Int),co (mrg c a b) v=co a v+co b v*c
 |[],[],v=>by grind [mrg,co]| a::aa,[],v=>by rw[mrg,lT,dQ c aa []];grind [co]| [],b::bb,v=>by rw[mrg,lT,dQ c [] bb];grind [co]| a::aa,b::bb,v=>by
  rw[mrg];split;{rw[lT,dQ c aa (b::bb)];grind [co]}
  ·split;{rw[lT,dQ c (a::aa) bb];grind [co]}
   ·(have:a.1=b.1:=by omega);rw[lT,dQ c aa bb];grind [co]
termination_by a b=>a.length+b.length
theorem fQ {c:Rat}:∀ {a b:List (Int×Rat)} {u},u∈mrg c a b->(∃ t,t∈a/\t.1=u.1)\/(∃ t,t∈b/\t.1=u.1)
 |[],[],u,h=>by grind [mrg]| a::aa,[],u,h=>by
  rw[mrg] at h;rcases qF h with rfl|h;{grind}
  ·rcases fQ h with⟨t,h1,h2⟩|⟨t,h1,h2⟩
   all_goals grind
 |[],b::bb,u,h=>by
  rw[mrg] at h;rcases qF h with rfl|h;{grind}
  ·rcases fQ h with⟨t,h1,h2⟩|⟨t,h1,h2⟩
   all_goals grind
 |a::aa,b::bb,u,h=>by
  rw[mrg] at h;split at h
  ·rcases qF h with rfl|h;{grind}
   ·rcases fQ h with⟨t,h1,h2⟩|⟨t,h1,h2⟩
    all_goals grind
  ·split at h
   ·rcases qF h with rfl|h;{grind}
    ·rcases fQ h with⟨t,h1,h2⟩|⟨t,h1,h2⟩
     all_goals grind
   ·rcases qF h with rfl|h;{grind}
    ·rcases fQ h with⟨t,h1,h2⟩|⟨t,h1,h2⟩
     all_goals grind
termination_by a b=>a.length+b.length
theorem Cn.mrg {c:Rat}:∀ {a b:List (Int×Rat)},Cn a->Cn b->Cn (mrg c a b)
 |[],[],_,_=>by rw[Go.Proofs.YtaeaffgjdcigoaaGreat.mrg];omega| a::aa,[],ha,hb=>by rw[Go.Proofs.YtaeaffgjdcigoaaGreat.mrg];refine Cn.pc (Cn.mrg ha.tail hb) fun u hu=>?_;rcases fQ hu with⟨t,h1,h2⟩|⟨t,h1,h2⟩;{rw[<-h2];exact ha.lt t h1};grind
 |[],b::bb,ha,hb=>by rw[Go.Proofs.YtaeaffgjdcigoaaGreat.mrg];refine Cn.pc (Cn.mrg ha hb.tail) fun u hu=>?_;rcases fQ hu with⟨t,h1,h2⟩|⟨t,h1,h2⟩;{grind};{rw[<-h2];exact hb.lt t h1}
 |a::aa,b::bb,ha,hb=>by
  rw[Go.Proofs.YtaeaffgjdcigoaaGreat.mrg];split;{rename_i hlt;refine Cn.pc (Cn.mrg ha.tail hb) fun u hu=>?_;rcases fQ hu with⟨t,h1,h2⟩|⟨t,h1,h2⟩;{rw[<-h2];exact ha.lt t h1};{rw[<-h2];rcases yI.1 h1 with rfl|h1;{exact hlt};{exact Int.lt_trans hlt (hb.lt t h1)}}}
  ·split;{rename_i _ hlt;refine Cn.pc (Cn.mrg ha hb.tail) fun u hu=>?_;rcases fQ hu with⟨t,h1,h2⟩|⟨t,h1,h2⟩;{rw[<-h2];rcases yI.1 h1 with rfl|h1;{exact hlt};{exact Int.lt_trans hlt (ha.lt t h1)}};{rw[<-h2];exact hb.lt t h1}}
   ·(have:a.1=b.1:=by omega);refine Cn.pc (Cn.mrg ha.tail hb.tail) fun u hu=>?_
    rcases fQ hu with⟨t,h1,h2⟩|⟨t,h1,h2⟩;{rw[<-h2];exact ha.lt t h1};{rw[<-h2,this];exact hb.lt t h1}
termination_by a b=>a.length+b.length
theorem s7 (v:Int)(q:Rat)(r):(pc v q r).length<=r.length+1:=by grind [pc]
theorem bY (c:Rat):∀ (a b:List (Int×Rat)),(mrg c a b).length<=a.length+b.length
 |[],[]=>by rw[mrg];simp| a::aa,[]=>by rw[mrg];have:=s7 a.1 a.2 (mrg c aa []);have:=bY c aa [];grind| [],b::bb=>by rw[mrg];have:=s7 b.1 (b.2*c) (mrg c [] bb);have:=bY c [] bb;grind| a::aa,b::bb=>by rw[mrg];split;{have:=s7 a.1 a.2 (mrg c aa (b::bb));have:=bY c aa (b::bb);grind};{split;{have:=s7 b.1 (b.2*c) (mrg c (a::aa) bb);have:=bY c (a::aa) bb;grind};{have:=s7 a.1 (a.2+b.2*c) (mrg c aa bb);have:=bY c aa bb;grind}}
termination_by a b=>a.length+b.length
def F.merge (f g:F) (c:Rat):F:=⟨mrg c f.ts g.ts,f.c+g.c*c⟩
def F.add (f g:F):F:=f.merge g 1
def F.sub (f g:F):F:=f.merge g (-1)
def F.scale (f:F) (c:Rat):F:=F.merge ⟨[],0⟩ f c
theorem nN {c:Rat}{k m:Nat}(hc:Fits m c):∀ {a b:List (Int×Rat)},(∀ t,t∈a->Fits k t.2)->(∀ t,t∈b->Fits k t.2)->∀ u,u∈mrg c a b->Fits (2*k+m+1) u.2
 |[],[],_,_,u,h=>by grind [mrg]| a::aa,[],ha,hb,u,h=>by rw[mrg] at h;rcases qF h with rfl|h;{exact (ha a xM).mono oM};{exact nN hc (fun t ht=>ha t (xN _ ht)) hb u h}
 |[],b::bb,ha,hb,u,h=>by rw[mrg] at h;rcases qF h with rfl|h;{exact (y6 (hb b xM) hc).mono oM};{exact nN hc ha (fun t ht=>hb t (xN _ ht)) u h}
 |a::aa,b::bb,ha,hb,u,h=>by rw[mrg] at h;split at h;{rcases qF h with rfl|h;{exact (ha a xM).mono oM};{exact nN hc (fun t ht=>ha t (xN _ ht)) hb u h}};{split at h;{rcases qF h with rfl|h;{exact (y6 (hb b xM) hc).mono oM};{exact nN hc ha (fun t ht=>hb t (xN _ ht)) u h}};{rcases qF h with rfl|h;{exact (qT (ha a xM) (y6 (hb b xM) hc)).mono oM};{exact nN hc (fun t ht=>ha t (xN _ ht)) (fun t ht=>hb t (xN _ ht)) u h}}}
termination_by a b=>a.length+b.length
theorem okQ {p:Prop}(h:p:=by (try simp only[zA,zH] at *) <;> (try dsimp only [zF] at *) <;> omega):p:=h
theorem zY {α:Type}{l:List α}{i:Nat}{t:α}(h:l[i]?=some t):l.drop i=t::l.drop (i+1):=by grind [List.drop_eq_getElem_cons]
theorem zC5 (vars p:Int)(t r):vT vars p (t::r)=(decide (0<=t.1)&&decide (t.1<vars)&&decide (p<t.1)&&decide (t.2.q≠0)&&t.2.ok&&vT vars t.1 r):=rfl
theorem sgnQ_ne {q:Rat}:z4 q≠0↔q≠0:=by grind [z4]
theorem tW (a:A)(vars:Int)(ha:a.sz (2^36)):zE 151 [av a,.int .i64 (fun _=>vars)] (.bool (fun _=>a.valid vars)):=by
 refine sF Tryz.f151 ?_;obtain⟨ts,c⟩:=a;have hl:=ha.t.len;have hts:=ha.t.sz;have cc:=s103 c ha.c;generalize hr:A.valid vars ⟨ts,c⟩=r;have hr0:r=(vT vars (-1) ts&&c.ok):=hr.symm;simp only at hl hts cc;generalize c.ok=co at *
 clear hr ha;cbv;refine z3 (σ:=Nat×Int) (fun s=>⟨[(1,.int .i64 (fun _=>vars)),(2,.ptr 2 0),(8,tsv ts),(9,.int .i64 (fun _=>(ts.length:Int))),(10,.int .i64 (fun _=>(s.1:Int)))],[(2,.box [tsv ts,.bool (fun _=>c.neg),nat c.num,nat c.den])]⟩)
  (fun s=>s.1<=ts.length/\r=(vT vars s.2 (ts.drop s.1)&&co)/\(s.1=0->s.2=-1)/\(s.1≠0->∃ u,ts[s.1-1]?=some u/\u.1=s.2)) (fun s=>ts.length-s.1)
  (0,-1) ⟨om,hr0,fun _=>rfl,fun h=>absurd rfl h⟩ (.le ?_ ?_ rfl) ?_
 {cbv;exact⟨lR,lR,lR,zC (by (try dsimp only [zF] at *);rw[zA]),lR,trivial⟩};{cbv;exact okA};intro s hs;obtain⟨h1,hv,h3,h4⟩:=hs;generalize s.1=i at *
 generalize s.2=p at *
 cbv;refine zG (fun h5=>?_) (fun h5=>?_)
 ·(cbv;refine xU (l:=ts) i (by (grind) <;> (try simp only[zH] at *) <;> omega) om wM wI (fun t ht=>?_);rw[zY ht,zC5] at hv;have htz:=hts t (yA ht);have cs:=s86 t.2 (by have:=htz.n;omega);have cv:=s103 t.2 htz;have hq:decide (t.2.q≠0)=decide (z4 t.2.q≠0):=by rw[decide_eq_decide];exact sgnQ_ne.symm);rw[hq] at hv
  generalize z4 t.2.q=sg at *
  generalize hok:t.2.ok=ok at *
  (obtain⟨v,x1,x2,x3⟩:=t;simp only at hv;generalize hrest:(vT vars v (ts.drop (i+1))&&co)=rest;have hv':r=(decide (0<=v)&&decide (v<vars)&&decide (p<v)&&decide (sg≠0)&&ok&&rest):=by grind);clear hv
  cbv;refine zN 37 (by cbv) ?_;cbv;refine zQ (fun e1=>?_) (fun e1=>?_)
  ·cbv
   (refine rC ?_;cbv)
   exact zM (by grind)
  cbv;refine zQ (fun e2=>?_) (fun e2=>?_)
  ·cbv
   (refine rC ?_;cbv)
   exact zM (by grind)
  (cbv;have fin:(¬(p<v)->r=false):=fun h=>by grind);have hmain:(p<v)->r=(decide (sg≠0)&&ok&&rest):=fun h=>by grind
  clear hv';refine zQ (fun e3=>?_) (fun e3=>?_)
  ·(obtain⟨u,hu,hu2⟩:=h4 om;cbv;refine⟨zD om om,xU (l:=ts) (i-1) om om wM wI (fun u' hu'=>?_)⟩;have:u'=u:=by grind);subst this
   obtain⟨w,y1,y2,y3⟩:=u';simp only at hu2;cbv;refine zQ (fun e4=>?_) (fun e4=>?_)
   ·cbv
    (refine rC ?_;cbv)
    exact zM (fin oM)
   have hm:=hmain oM;cbv;refine dA cs ?_;cbv;refine zQ (fun e5=>?_) (fun e5=>?_)
   ·cbv
    (refine rC ?_;cbv)
    exact zM (by grind)
   rw[decide_eq_true e5,yU] at hm;cbv;refine dA cv ?_;cbv;refine zP (fun e6=>?_) (fun e6=>?_);{rw[e6,yU] at hm;cbv;exact⟨zD om om,(i+1,v),⟨om,by grind,fun h=>absurd h (by simp),fun _=>⟨_,ht,rfl⟩⟩,om,.le (by cbv;exact⟨lR,lR,lR,lR,zC om,trivial⟩) (by cbv;exact okA) rfl⟩}
   ·cbv
    (refine rC ?_;cbv)
    exact zM (by grind)
  ·have hp:=h3 om;have hm:=hmain oM;cbv;refine dA cs ?_;cbv;refine zQ (fun e5=>?_) (fun e5=>?_)
   ·cbv
    (refine rC ?_;cbv)
    exact zM (by grind)
   rw[decide_eq_true e5,yU] at hm;cbv;refine dA cv ?_;cbv;refine zP (fun e6=>?_) (fun e6=>?_);{rw[e6,yU] at hm;cbv;exact⟨zD om om,(i+1,v),⟨om,by grind,fun h=>absurd h (by simp),fun _=>⟨_,ht,rfl⟩⟩,om,.le (by cbv;exact⟨lR,lR,lR,lR,zC om,trivial⟩) (by cbv;exact okA) rfl⟩}
   ·cbv
    (refine rC ?_;cbv)
    exact zM (by grind)
 ·(have he:i=ts.length:=om;rw[he,w4] at hv;have hv':r=co:=by rw[hv];rfl);cbv
  refine cA cc ?_;cbv
  (refine rC ?_;cbv)
  exact zV hv'.symm
end Go.Proofs.YtaeaffgjdcigoaaGreat
