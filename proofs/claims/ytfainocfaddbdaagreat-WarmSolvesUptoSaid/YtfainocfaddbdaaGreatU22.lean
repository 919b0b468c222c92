/- A part of the proof: ReF, ReG, ReH, AfA, LnA, LnB, DtA, HfA, VaA, RwA, RwB, UtA. -/
import Derived.Test.YtfainocfaddbdaaGreatU21
set_option linter.all false
namespace Go.Proofs.YtfainocfaddbdaaGreat
open Go
set_option maxRecDepth 100000
set_option maxHeartbeats 1000000
def dJ (d:List UInt32):List UInt32:=zF (if val d=0 then 1 else val d)
theorem r5 (x:R):val (dJ x.den)=x.d:=by unfold dJ R.d;rw[zM]
theorem eH (d:List UInt32):(dJ d).length<=d.length+1:=by unfold dJ;split;{rw[zAJ];simp};{have:=zS d;omega}
theorem s100 (d:List UInt32)(hd:d.length<2^40):zG 71 [nat d] (nat (dJ d)):=by
 refine sF Tryz.f71 ?_;have c1:=lU d oM;have e1:(zF (val d)).length=0->dJ d=[1]:=fun h=>by unfold dJ;rw[if_pos (xX.1 (jS h)),zAJ]
 have e2:(zF (val d)).length≠0->dJ d=zF (val d):=fun h=>by unfold dJ;rw[if_neg (fun e=>h (by rw[e,limbs_zero];rfl))]
 generalize dJ d=u at *
 generalize zF (val d)=p at *
 cbv;refine cA c1 ?_;cbv;refine zD (fun h=>?_) (fun h=>?_)
 ·have:=e1 om;subst this;cbv
  (refine rC ?_;cbv)
  exact zY rfl
 ·have:=e2 (by (try dsimp only [zI] at *);rw[zH] at h;omega);subst this;cbv
  (refine rC ?_;cbv)
  exact lR
theorem s102 (neg:Bool)(num den:List UInt32)(hn:num.length<2^33)(hd:den.length<2^33)(h0:val den≠0):zG 69 [.bool (fun _=>neg),nat num,nat den] (rv (zJ (mkRat (sgn neg (val num)) (val den)))):=by
 refine sF Tryz.f69 ?_;rw[o8 h0];have hg0:Nat.gcd (val num) (val den)≠0:=fun e=>h0 (Nat.eq_zero_of_gcd_eq_zero_right e);have hgl:(zF (Nat.gcd (val num) (val den))).length<2^33:=xJ (vS (kL (zBT (cZ h0) (zBS _ _))) (zS den)) hd;have cg:=s158 num den oM oM;have cn:=s159 num (zF (Nat.gcd (val num) (val den))) oM oM (by rw[zM];exact hg0);have cd:=s159 den (zF (Nat.gcd (val num) (val den))) oM oM (by rw[zM];exact hg0);rw[zM] at cn cd;have hnz:val num/Nat.gcd (val num) (val den)=0↔val num=0:=by rw[Nat.div_eq_zero_iff_lt (cZ hg0)];constructor;{intro h;rcases aY (val num) with e|e;{exact e};{have:=Nat.gcd_le_left (val den) e;omega}};{intro h;omega}
 have hdl:(zF (val den/Nat.gcd (val num) (val den))).length<2^33:=xJ (vS (kL (aW _ _)) (zS den)) hd;generalize val den/Nat.gcd (val num) (val den)=D' at *
 generalize val num/Nat.gcd (val num) (val den)=N' at *
 generalize Nat.gcd (val num) (val den)=g at *
 generalize val num=N at *
 show wp _ _ (pF _ (.agg [.bool (fun _=>neg&&decide (N≠0)),nat (zF N'),nat (if D'=1 then [] else zF D')]) [] []);have hN0:decide (N≠0)=decide (0<(zF N').length):=by rw[decide_eq_decide,List.length_pos_iff,ne_eq,ne_eq,xX,hnz]
 rw[hN0];have hone:=@fX D';generalize hr2:(if D'=1 then [] else zF D')=r2;have hr2a:zF D'=[1]->r2=[]:=fun h=>by rw[<-hr2,if_pos (hone.1 h)]
 have hr2b:zF D'≠[1]->r2=zF D':=fun h=>by rw[<-hr2,if_neg (fun e=>h (hone.2 e))]
 generalize zF D'=dl at *
 generalize zF N'=nl at *
 clear hr2 hone hN0 hnz;cbv;refine cA cg ?_;cbv;refine cA cn ?_;cbv;refine cA cd ?_;cbv;have one_of:∀ (h1:dl.length=1),((dl.getD 0 0).toNat:Int)=1↔dl=[1]:=by
  intro h1
  match dl,h1 with
  |[x],_ =>
   have e1:[x].getD 0 0=x:=rfl;rw[e1];constructor;{intro h2;have:x=1:=s9.1 (by show x.toNat=1;omega);rw[this]};{intro h2;rw[List.cons.inj h2 |>.1];rfl}
 refine yD (fun h=>?_) (fun h=>?_)
 ·have h1:dl.length=1:=om;have ho:=one_of h1;cbv;refine xO 0 rfl oM ?_;cbv;refine zD (fun h2=>?_) (fun h2=>?_)
  ·have h3:=hr2a (ho.1 h2);cbv;refine xK (fun h4=>?_) (fun h4=>?_)
   ·subst h4;cbv
    (refine rC ?_;cbv)
    exact⟨yX (by simp[zH]),lR,xB (by rw[h3];rfl),trivial⟩
   ·subst h4;cbv
    (refine rC ?_;cbv)
    exact⟨z5 rfl,lR,xB (by rw[h3];rfl),trivial⟩
  ·have h3:=hr2b (fun e=>h2 (ho.2 e));cbv;refine xK (fun h4=>?_) (fun h4=>?_)
   ·subst h4;cbv
    (refine rC ?_;cbv)
    exact⟨yX (by simp[zH]),lR,zY (by rw[h3]),trivial⟩
   ·subst h4;cbv
    (refine rC ?_;cbv)
    exact⟨z5 rfl,lR,zY (by rw[h3]),trivial⟩
 ·have h3:=hr2b (fun e=>h (by rw[e];rfl));cbv;refine xK (fun h4=>?_) (fun h4=>?_)
  ·subst h4;cbv
   (refine rC ?_;cbv)
   exact⟨yX (by simp[zH]),lR,zY (by rw[h3]),trivial⟩
  ·subst h4;cbv
   (refine rC ?_;cbv)
   exact⟨z5 rfl,lR,zY (by rw[h3]),trivial⟩
theorem s47 (x:R)(hx:x.sz (2^32)):zG 110 [rv x] (rv (zJ x.q)):=by
 refine sF Tryz.f110 ?_;have h1:=hx.n;have h2:=hx.d;have h3:=eH x.den;have cu:=s100 x.den oM;have cq:=s102 x.neg x.num (dJ x.den) oM oM (by rw[r5];exact x.d_ne);rw[r5] at cq;have e:mkRat (sgn x.neg (val x.num)) x.d=x.q:=rfl;rw[e] at cq;generalize zJ x.q=W at *
 generalize dJ x.den=u at *
 obtain⟨neg,num,den⟩:=x;cbv;refine zT 8 (by cbv) ?_;cbv;refine dA cu ?_;cbv;refine dA cq ?_;cbv
 (refine rC ?_;cbv)
 exact okA
theorem s35 (x:R)(hx:x.num.length<2^40):zG 31 [rv x] (.int .i64 (fun _=>xF x.q)):=by
 refine sF Tryz.f31 ?_;have c2:=s90 ⟨x.neg,x.num⟩ hx;have e:Z.v ⟨x.neg,x.num⟩=x.n:=rfl;rw[e,<-zS0] at c2;generalize xF x.q=s at *
 obtain⟨neg,num,den⟩:=x;cbv;refine cA c2 ?_;cbv
 (refine rC ?_;cbv)
 exact lR
theorem s143 (x:R)(hx:x.sz (2^32)):zG 122 [rv x] (rv (zJ (-x.q))):=by
 refine sF Tryz.f122 ?_;have ca:=s47 ⟨!x.neg,x.num,x.den⟩ ⟨hx.n,hx.d⟩;rw[zT8] at ca;generalize zJ (-x.q)=W at *
 obtain⟨a,b,c⟩:=x;generalize hna:(!a)=na at *
 cbv;refine wL rfl (by exact⟨⟨jZ hna.symm,lR,lR,trivial⟩,trivial⟩) ca rfl ?_;cbv
 (refine rC ?_;cbv)
 exact okA
theorem s77 (x y:R)(hx:x.sz (2^31))(hy:y.sz (2^31)):zG 28 [rv x,rv y] (rv (zJ (x.q*y.q))):=by
 refine sF Tryz.f28 ?_;have h1:=hx.n;have h2:=hx.d;have h3:=hy.n;have h4:=hy.d;have h7:=eH x.den;have h8:=eH y.den;have cux:=s100 x.den oM;have cuy:=s100 y.den oM;have cm:=s99 (dJ x.den) (dJ y.den) oM oM;have hml:=fY (dJ x.den) (dJ y.den);rw[r5,r5] at cm hml;have cn:=s99 x.num y.num oM oM;have hnl:=fY x.num y.num;have cq:=s102 (x.neg != y.neg) (zF (val x.num*val y.num)) (zF (x.d*y.d)) oM oM (by rw[zM];exact zFF x.d_ne y.d_ne);rw[zM,zM,<-zG7] at cq;have e:mkRat (sgn x.neg (val x.num)*sgn y.neg (val y.num)) (x.d*y.d)=x.q*y.q:=(zW1 x y).symm;rw[e] at cq;have hb:(x.neg != y.neg)=!decide (x.neg=y.neg):=by cases x.neg <;> cases y.neg <;> rfl
 clear hml hnl e;generalize zJ (x.q*y.q)=W at *
 generalize zF (x.d*y.d)=M at *
 generalize zF (val x.num*val y.num)=P at *
 generalize dJ x.den=ux at *
 generalize dJ y.den=uy at *
 obtain⟨a,b,c⟩:=x;obtain⟨a',b',c'⟩:=y;simp only at *
 generalize (a != a')=nb at *
 cbv;refine zT 18 (by cbv) ?_;cbv;refine dA cn ?_;cbv;refine dA cux ?_;cbv;refine dA cuy ?_;cbv;refine dA cm ?_;cbv;refine bJ (by exact⟨jZ hb,lR,lR,trivial⟩) cq rfl ?_;cbv
 (refine rC ?_;cbv)
 exact okA
theorem s69 (x y:R)(hx:x.sz (2^32))(hy:y.sz (2^32)):zG 109 [rv x,rv y] (.bool (fun _=>decide (x=y))):=by
 refine sF Tryz.f109 ?_;have h1:=hx.n;have h2:=hx.d;have h3:=hy.n;have h4:=hy.d;have c1:=s130 x.num y.num oM oM;have c2:=s130 x.den y.den oM oM;obtain⟨a,b,c⟩:=x;obtain⟨a',b',c'⟩:=y;have hO:(decide ((⟨a,b,c⟩:R)=⟨a',b',c'⟩))=(decide (a=a')&&(decide (b=b')&&decide (c=c'))):=by rw[aZ];simp only[decide_eq_true_eq,R.mk.injEq,y9]
 rw[hO];simp only at c1 c2;generalize decide (b=b')=d1 at *
 generalize decide (c=c')=d2 at *
 clear hO h1 h2 h3 h4 hx hy;generalize hr:(decide (a=a')&&(d1&&d2))=r;cbv;refine yD (fun h=>?_) (fun h=>?_)
 ·rw[show decide (a=a')=true from decide_eq_true h,wM] at hr;cbv;refine cA c1 ?_;cbv;refine xK (fun h'=>?_) (fun h'=>?_)
  ·subst h';cbv;refine cA c2 ?_;cbv
   (refine rC ?_;cbv)
   exact yX (by rw[<-hr];rfl)
  ·subst h';cbv
   (refine rC ?_;cbv)
   exact z5 (by rw[<-hr];rfl)
 ·rw[show decide (a=a')=false from decide_eq_false h,Bool.false_and] at hr;cbv
  (refine rC ?_;cbv)
  exact z5 hr.symm
theorem s129 (x:R)(hx:x.sz (2^32)):zG 62 [rv x] (.bool (fun _=>x.ok)):=by
 refine sF Tryz.f62 ?_;have cc:=s47 x hx;have cs:=s69 x (zJ x.q) hx (yF (hx.fits (by decide)));have e:decide (x=zJ x.q)=x.ok:=rfl;rw[e] at cs;generalize x.ok=o at *
 generalize zJ x.q=W at *
 obtain⟨a,b,c⟩:=x;obtain⟨a',b',c'⟩:=W;cbv;refine zT 4 (by cbv) ?_;cbv;refine dA cc ?_;cbv;refine dA cs ?_;cbv
 (refine rC ?_;cbv)
 exact lR
theorem zRP (z:Int):zJ (z:Rat)=⟨(wA z).neg,(wA z).mag,[]⟩:=by unfold zJ wA;simp only[Rat.num_intCast,Rat.den_intCast,if_true];congr
theorem s32 (x:Int)(h1:-9223372036854775808<=x)(h2:x<9223372036854775808):zG 26 [.int .i64 (fun _=>x)] (rv (zJ (x:Rat))):=by
 refine sF Tryz.f26 ?_;have c1:=s88 x h1 h2;rw[zRP];generalize wA x=y at *
 obtain⟨a,b⟩:=y;cbv;refine cA c1 ?_;cbv
 (refine rC ?_;cbv)
 exact okA
def pR (a b:Int):Rat:=Rat.divInt a b
theorem zSE (a b:Bool)(n m:Nat):mkRat (sgn (a != b) n) m=pR (sgn a n) (sgn b m):=by
 have h1:∀ (z:Int),Rat.divInt z (m:Int)=mkRat z m:=fun z=>zIW z m;have h2:∀ (z:Int),Rat.divInt z (-(m:Int))=mkRat (-z) m:=fun z=>by rw[Rat.divInt_neg',h1]
 unfold pR;cases b;{rw[show sgn false m=(m:Int) from rfl,h1];cases a <;> rfl};{rw[show sgn true m=-(m:Int) from rfl,h2];cases a;{rfl};{show mkRat (n:Int) m=mkRat (- -(n:Int)) m;rw[Int.neg_neg]}}
theorem s98 (x y:Z)(hx:x.mag.length<2^33)(hy:y.mag.length<2^33)(h0:y.v≠0):zG 125 [zv x,zv y] (.tup [rv (zJ (pR x.v y.v)),.int .i64 (fun _=>0)]):=by
 refine sF Tryz.f125 ?_;have cs:=s90 y oM;have hs:jV y.v≠0:=by unfold jV;split <;> (try split) <;> omega
 have hv0:val y.mag≠0:=fun e=>h0 (by unfold Z.v;rw[e,zJA]);have cq:=s102 (x.neg != y.neg) x.mag y.mag hx hy hv0;have e:mkRat (sgn (x.neg != y.neg) (val x.mag)) (val y.mag)=pR x.v y.v:=by exact zSE _ _ _ _
 rw[e] at cq;have hb:(x.neg != y.neg)=!decide (x.neg=y.neg):=by cases x.neg <;> cases y.neg <;> rfl
 generalize zJ (pR x.v y.v)=W at *
 generalize jV y.v=s at *
 obtain⟨a,b⟩:=x;obtain⟨a',b'⟩:=y;simp only at *
 generalize (a != a')=nb at *
 cbv;refine cA cs ?_;cbv;refine zD (fun h=>absurd h hs) (fun h=>?_);cbv;refine wL rfl (by exact⟨jZ hb,lR,lR,trivial⟩) cq rfl ?_;cbv
 (refine rC ?_;cbv)
 exact okA
theorem s43 (x y:Int)(h1:-9223372036854775808<=x)(h2:x<9223372036854775808)(h3:-9223372036854775808<=y)(h4:y<9223372036854775808)(h0:y≠0):zG 77 [.int .i64 (fun _=>x),.int .i64 (fun _=>y)] (.tup [rv (zJ (pR x y)),.int .i64 (fun _=>0)]):=by
 refine sF Tryz.f77 ?_;have c1:=s88 x h1 h2;have c2:=s88 y h3 h4;have hl1:=zD0 x h1 h2;have hl2:=zD0 y h3 h4;have c3:=s98 (wA x) (wA y) oM oM (by rw[dP];exact h0);rw[dP,dP] at c3;generalize zJ (pR x y)=W at *
 generalize wA x=X at *
 generalize wA y=Y at *
 cbv;refine cA c1 ?_;cbv;refine cA c2 ?_;cbv;refine cA c3 ?_;cbv
 (refine rC ?_;cbv)
 exact okA
theorem s44 (x y:R)(hx:x.sz (2^31))(hy:y.sz (2^31)):zG 32 [rv x,rv y] (rv (zJ (x.q+y.q))):=by
 refine sF Tryz.f32 ?_;have h1:=hx.n;have h2:=hx.d;have h3:=hy.n;have h4:=hy.d;have h7:=eH x.den;have h8:=eH y.den;have cux:=s100 x.den oM;have cuy:=s100 y.den oM;have cx:=s99 x.num (dJ y.den) oM oM;have cy:=s99 y.num (dJ x.den) oM oM;have hxl:=fY x.num (dJ y.den);have hyl:=fY y.num (dJ x.den);rw[r5] at cx cy hxl hyl;have ca:=s101 ⟨x.neg,zF (val x.num*y.d)⟩ ⟨y.neg,zF (val y.num*x.d)⟩ (show (zF (val x.num*y.d)).length<_ by omega) (show (zF (val y.num*x.d)).length<_ by omega);have e1:Z.v ⟨x.neg,zF (val x.num*y.d)⟩=x.n*(y.d:Int):=by unfold Z.v R.n;rw[zM,zAX]
 have e2:Z.v ⟨y.neg,zF (val y.num*x.d)⟩=y.n*(x.d:Int):=by unfold Z.v R.n;rw[zM,zAX]
 rw[e1,e2] at ca;have cm:=s99 (dJ x.den) (dJ y.den) oM oM;have hml:=fY (dJ x.den) (dJ y.den);rw[r5,r5] at cm hml;have hsl:(wA (x.n*(y.d:Int)+y.n*(x.d:Int))).mag.length<2^33:=by have a1:=xZ (zF (val x.num*y.d));have a2:=xZ (zF (val y.num*x.d));rw[zM] at a1 a2;obtain⟨k,hk⟩:∃ k,k=4294967297:=⟨_,rfl⟩;have b1:=gN a1 (gA wI (show (zF (val x.num*y.d)).length<=k by omega));have b2:=gN a2 (gA wI (show (zF (val y.num*x.d)).length<=k by omega));have e3:=Int.natAbs_add_le (x.n*(y.d:Int)) (y.n*(x.d:Int));rw[zBR,zBR,R.n,R.n,u6,u6,zFG,zFG] at e3;have e4:B^k*2<=B^k*B:=wW _ (by decide);have e5:(zF (x.n*(y.d:Int)+y.n*(x.d:Int)).natAbs).length<=k+1:=z7 (by rw[xS B k];unfold R.n;generalize B^k=P at *;omega);show (zF (x.n*(y.d:Int)+y.n*(x.d:Int)).natAbs).length<2^33;omega
 have cq:=s102 (wA (x.n*(y.d:Int)+y.n*(x.d:Int))).neg (wA (x.n*(y.d:Int)+y.n*(x.d:Int))).mag (zF (x.d*y.d)) hsl oM (by rw[zM];exact zFF x.d_ne y.d_ne);have e6:sgn (wA (x.n*(y.d:Int)+y.n*(x.d:Int))).neg (val (wA (x.n*(y.d:Int)+y.n*(x.d:Int))).mag)=x.n*(y.d:Int)+y.n*(x.d:Int):=dP _;rw[e6,zM,<-zT9] at cq;clear e6 hsl hml e1 e2 hxl hyl;generalize zJ (x.q+y.q)=W at *
 generalize zF (x.d*y.d)=M at *
 generalize wA (x.n*(y.d:Int)+y.n*(x.d:Int))=S at *
 generalize zF (val x.num*y.d)=W1 at *
 generalize zF (val y.num*x.d)=W2 at *
 generalize dJ x.den=ux at *
 generalize dJ y.den=uy at *
 obtain⟨a,b,c⟩:=x;obtain⟨a',b',c'⟩:=y;obtain⟨s1,s2⟩:=S;cbv;refine oG 10 (by cbv) (by cbv) ?_;cbv;refine dA cuy ?_;cbv;refine dA cx ?_;cbv;refine oG 10 (by cbv) (by cbv) ?_;cbv;refine dA cux ?_;cbv;refine dA cy ?_;cbv;refine cA ca ?_;cbv;refine zT 12 (by cbv) ?_;cbv;refine dA cux ?_;cbv;refine dA cuy ?_;cbv;refine dA cm ?_;cbv;refine dA cq ?_;cbv
 (refine rC ?_;cbv)
 exact okA
theorem s93 (x y:R)(hx:x.sz (2^31))(hy:y.sz (2^31)):zG 73 [rv x,rv y] (rv (zJ (x.q-y.q))):=by
 refine sF Tryz.f73 ?_;have cn:=s143 y (hy.mono oM);have ca:=s44 x (zJ (-y.q)) hx (yF (aK (hy.fits (by decide))));rw[yY,<-zIV] at ca;generalize zJ (x.q-y.q)=W at *
 generalize zJ (-y.q)=V at *
 obtain⟨a,b,c⟩:=x;obtain⟨a',b',c'⟩:=y;cbv;refine zT 4 (by cbv) ?_;cbv;refine dA cn ?_;cbv;refine dA ca ?_;cbv
 (refine rC ?_;cbv)
 exact okA
theorem zWA (a b:Rat):xF (a-b)=gJ a b:=by
 unfold xF gJ;have h1:a-b<0↔a<b:=by grind
 have h2:0<a-b↔b<a:=by grind
 simp only[h1,h2]
theorem s42 (x y:R)(hx:x.sz (2^31))(hy:y.sz (2^31)):zG 30 [rv x,rv y] (.int .i64 (fun _=>gJ x.q y.q)):=by
 refine sF Tryz.f30 ?_;have ca:=s93 x y hx hy;have hf:=(zR5 (hx.fits (by decide)) (hy.fits (by decide))).lnum;have cs:=s35 (zJ (x.q-y.q)) (xJ hf oM);rw[yY,zWA] at cs;clear hf;generalize gJ x.q y.q=C at *
 generalize zJ (x.q-y.q)=W at *
 cbv;refine cA ca ?_;cbv;refine cA cs ?_;cbv
 (refine rC ?_;cbv)
 exact lR
def enc {α:Type} (p:α->List PV) (l:List α):List (List D):=l.map fun a=>x6 (p a)
section
variable {α:Type} {p:α->List PV}
theorem zK (p:α->List PV)(l:List α):(enc p l).length=l.length:=by simp[enc]
theorem pO {n:Nat}(hn:∀ a,(p a).length=n)(l:List α):Wid n (fun _=>enc p l):=⟨fun e he=>by simp only[enc,yS] at he;obtain⟨x,_,rfl⟩:=he;rw[kB,hn]⟩
theorem cD (p:α->List PV)(l m:List α):enc p l++enc p m=enc p (l++m):=by simp[enc]
theorem zKI (p:α->List PV)(l:List α)(n:Nat):(enc p l).take n=enc p (l.take n):=by simp[enc,List.map_take]
theorem zKJ (p:α->List PV)(l:List α)(n:Nat):(enc p l).drop n=enc p (l.drop n):=by simp[enc,List.map_drop]
theorem zC0 (p:α->List PV)(l:List α)(n:Nat)(a:α):(enc p l).set n (x6 (p a))=enc p (l.set n a):=by simp[enc,List.map_set]
theorem pM {n:Nat}{l:List α}{k:Int}{K:List PV->Prop}(j:Nat)(hk:k=(j:Int))(hj:j<l.length)(hf:∀ a,yV jN (p a)=true)(hn:∀ a,(p a).length=n) (hK:∀ a,l[j]?=some a->K (p a)):IdxOk n (fun _=>enc p l) (fun _=>k) K :=
 zM3 j hk (p l[j]) (hf _) (hn _) (by simp[enc,hj]) (hK _ (by simp[hj]))
end
structure A where
 ts:List (Int×R)
 c:R
structure F where
 ts:List (Int×Rat)
 c:Rat
theorem F.ext' {f g:F}(h1:f.ts=g.ts)(h2:f.c=g.c):f=g:=by cases f;cases g;simp_all
def tq (l:List (Int×R)):List (Int×Rat):=l.map fun t=>(t.1,t.2.q)
def tR (l:List (Int×Rat)):List (Int×R):=l.map fun t=>(t.1,zJ t.2)
def A.f (a:A):F:=⟨tq a.ts,a.c.q⟩
def fA (f:F):A:=⟨tR f.ts,zJ f.c⟩
theorem zMB (l:List (Int×Rat)):tq (tR l)=l:=by simp[tq,tR,yY,Function.comp_def]
theorem f_fA (f:F):(fA f).f=f:=by simp[A.f,fA,zMB,yY]
def rc (x:R):List PV:=[.bool (fun _=>x.neg),nat x.num,nat x.den]
def tc (t:Int×R):List PV:=[.int .i64 (fun _=>t.1),.bool (fun _=>t.2.neg),nat t.2.num,nat t.2.den]
abbrev tsv (l:List (Int×R)):PV:=.sl (fun _=>enc tc l)
def ac (f:A):List PV:=[tsv f.ts,.bool (fun _=>f.c.neg),nat f.c.num,nat f.c.den]
abbrev av (f:A):PV:=.agg [tsv f.ts,.bool (fun _=>f.c.neg),nat f.c.num,nat f.c.den]
abbrev fv (f:F):PV:=av (fA f)
theorem eE (a:R):yV jN (rc a)=true:=rfl
theorem zEZ (a:R):(rc a).length=3:=rfl
theorem kG (a:Int×R):yV jN (tc a)=true:=rfl
theorem jE (a:Int×R):(tc a).length=4:=rfl
theorem gU (a:A):yV jN (ac a)=true:=rfl
theorem dG (a:A):(ac a).length=4:=rfl
structure Tsz (k:Nat) (l:List (Int×R)):Prop where
 len:l.length<2^38
 sz:∀ t,t∈l->t.2.sz k
structure A.sz (a:A) (k:Nat):Prop where
 t:Tsz k a.ts
 c:a.c.sz k
theorem Tsz.mono {k m:Nat}{l}(h:Tsz k l)(hm:k<=m):Tsz m l:=⟨h.len,fun t ht=>(h.sz t ht).mono hm⟩
theorem A.sz.mono {k m:Nat}{a:A}(h:a.sz k)(hm:k<=m):a.sz m:=⟨h.t.mono hm,h.c.mono hm⟩
structure Tfit (k:Nat) (l:List (Int×Rat)):Prop where
 len:l.length<2^38
 fit:∀ t,t∈l->Fits k t.2
structure F.fit (f:F) (k:Nat):Prop where
 t:Tfit k f.ts
 c:Fits k f.c
theorem Tfit.mono {k m:Nat}{l}(h:Tfit k l)(hm:k<=m):Tfit m l:=⟨h.len,fun t ht=>(h.fit t ht).mono hm⟩
theorem F.fit.mono {k m:Nat}{a:F}(h:a.fit k)(hm:k<=m):a.fit m:=⟨h.t.mono hm,h.c.mono hm⟩
theorem Tfit.tR {k:Nat}{l}(h:Tfit k l):Tsz k (tR l):=⟨by simpa[Go.Proofs.YtfainocfaddbdaaGreat.tR] using h.len,fun t ht=>by simp only[Go.Proofs.YtfainocfaddbdaaGreat.tR,yS] at ht;obtain⟨u,hu,rfl⟩:=ht;exact yF (h.fit u hu)⟩
theorem F.fit.fA {k:Nat}{f:F}(h:f.fit k):(fA f).sz k:=⟨h.t.tR,yF h.c⟩
theorem Tsz.fit {k:Nat}{l}(h:Tsz k l)(hk:1<=k):Tfit k (tq l):=⟨by simpa[tq] using h.len,fun t ht=>by simp only[tq,yS] at ht;obtain⟨u,hu,rfl⟩:=ht;exact (h.sz u hu).fits hk⟩
theorem A.sz.fit {k:Nat}{a:A}(h:a.sz k)(hk:1<=k):a.f.fit k:=⟨h.t.fit hk,h.c.fits hk⟩
def vT (vars:Int):Int->List (Int×R)->Bool
 |_,[]=>true| p,t::r=>decide (0<=t.1)&&decide (t.1<vars)&&decide (p<t.1)&&decide (t.2.q≠0)&&t.2.ok&&vT vars t.1 r
def A.valid (vars:Int) (a:A):Bool:=vT vars (-1) a.ts&&a.c.ok
structure Cn (l:List (Int×Rat)):Prop where
 s:l.Pairwise (fun a b=>a.1<b.1)
 n:∀ t,t∈l->t.2≠0
theorem Cn.nil:Cn []:=⟨.nil,by simp⟩
theorem Cn.tail {t l}(h:Cn (t::l)):Cn l:=⟨(zND.1 h.s).2,fun u hu=>h.n u (xI _ hu)⟩
theorem Cn.lt {t l}(h:Cn (t::l)):∀ u,u∈l->t.1<u.1:=(zND.1 h.s).1
theorem Cn.hd {t l}(h:Cn (t::l)):t.2≠0:=h.n t xD
theorem Cn.cons {t l}(h:Cn l)(h1:∀ u,u∈l->t.1<u.1)(h2:t.2≠0):Cn (t::l) :=
 ⟨zND.2 ⟨h1,h.s⟩,fun u hu=>by rcases z9.1 hu with rfl|hu <;> first|exact h2|exact h.n u hu⟩
def co:List (Int×Rat)->Int->Rat
 |[],_=>0| t::r,v=>(if t.1=v then t.2 else 0)+co r v
theorem oL {l:List (Int×Rat)}{v:Int}(h:∀ t,t∈l->t.1≠v):co l v=0:=by
 induction l with
 |nil=>rfl| cons t r ih =>
  simp only[co,if_neg (h t xD),ih fun u hu=>h u (xI _ hu)];grind
theorem jQ {t:Int×Rat}{l}(h:Cn (t::l)):co (t::l) t.1=t.2:=by simp only[co,if_true,oL fun u hu=>(Int.ne_of_lt (h.lt u hu)).symm];grind
theorem Cn.ext:∀ {l m:List (Int×Rat)},Cn l->Cn m->(∀ v,co l v=co m v)->l=m
 |[],[],_,_,_=>rfl| [],b::m,_,hm,h=>by have:=h b.1;rw[jQ hm] at this;exact absurd this.symm hm.hd| a::l,[],hl,_,h=>by have:=h a.1;rw[jQ hl] at this;exact absurd this hl.hd| a::l,b::m,hl,hm,h=>by
  have h1:a.1=b.1:=by
   rcases Int.lt_trichotomy a.1 b.1 with c|c|c
   ·have:=h a.1;rw[jQ hl,oL (l:=b::m) (fun t ht=>by
     rcases z9.1 ht with rfl|ht;{omega}
     ·have:=hm.lt t ht;omega)] at this
    exact absurd this hl.hd
   {exact c}
   ·have:=h b.1;rw[jQ hm,oL (l:=a::l) (fun t ht=>by
     rcases z9.1 ht with rfl|ht;{omega}
     ·have:=hl.lt t ht;omega)] at this
    exact absurd this.symm hm.hd
  (have h2:a.2=b.2:=by have:=h a.1;rw[jQ hl,h1,jQ hm] at this;exact this);have h3:a=b:=Prod.ext h1 h2;subst h3;congr 1;refine Cn.ext hl.tail hm.tail fun v=>?_;have:=h v;simp only[co] at this;grind
def pc (v:Int) (q:Rat) (r:List (Int×Rat)):List (Int×Rat):=if q=0 then r else (v,q)::r
theorem lH (v:Int)(q:Rat)(r)(w:Int):co (pc v q r) w=(if v=w then q else 0)+co r w:=by unfold pc;split;{rename_i h;rw[h];split <;> grind};{rfl}
theorem Cn.pc {v:Int}{q:Rat}{r}(h:Cn r)(h1:∀ u,u∈r->v<u.1):Cn (pc v q r):=by unfold Go.Proofs.YtfainocfaddbdaaGreat.pc;split;{exact h};{exact h.cons h1 (by assumption)}
theorem u7 {v:Int}{q:Rat}{r u}(h:u∈pc v q r):u=(v,q)\/u∈r:=by unfold pc at h;split at h;{exact .inr h};{exact z9.1 h}
def mrg (c:Rat):List (Int×Rat)->List (Int×Rat)->List (Int×Rat)
 |[],[]=>[]| a::aa,[]=>pc a.1 a.2 (mrg c aa [])| [],b::bb=>pc b.1 (b.2*c) (mrg c [] bb)| a::aa,b::bb=>if a.1<b.1 then pc a.1 a.2 (mrg c aa (b::bb)) else if b.1<a.1 then pc b.1 (b.2*c) (mrg c (a::aa) bb) else pc a.1 (a.2+b.2*c) (mrg c aa bb)
termination_by a b=>a.length+b.length
theorem cX (c:Rat):∀ (a b:List (Int×Rat)) (v:Int),co (mrg c a b) v=co a v+co b v*c
 |[],[],v=>by rw[mrg];simp only[co];grind| a::aa,[],v=>by rw[mrg,lH,cX c aa []];simp only[co];grind| [],b::bb,v=>by rw[mrg,lH,cX c [] bb];simp only[co];split <;> grind| a::aa,b::bb,v=>by
  rw[mrg];split;{rw[lH,cX c aa (b::bb)];simp only[co];grind}
  ·split;{rw[lH,cX c (a::aa) bb];simp only[co];split <;> grind}
   ·(have:a.1=b.1:=by omega);rw[lH,cX c aa bb];simp only[co,this];split <;> grind
termination_by a b=>a.length+b.length
theorem fW {c:Rat}:∀ {a b:List (Int×Rat)} {u},u∈mrg c a b->(∃ t,t∈a/\t.1=u.1)\/(∃ t,t∈b/\t.1=u.1)
 |[],[],u,h=>by rw[mrg] at h;exact absurd h (by simp)| a::aa,[],u,h=>by rw[mrg] at h;rcases u7 h with rfl|h;{exact .inl ⟨a,xD,rfl⟩};{rcases fW h with⟨t,h1,h2⟩|⟨t,h1,h2⟩;{exact .inl ⟨t,xI _ h1,h2⟩};{exact .inr ⟨t,h1,h2⟩}}
 |[],b::bb,u,h=>by rw[mrg] at h;rcases u7 h with rfl|h;{exact .inr ⟨b,xD,rfl⟩};{rcases fW h with⟨t,h1,h2⟩|⟨t,h1,h2⟩;{exact .inl ⟨t,h1,h2⟩};{exact .inr ⟨t,xI _ h1,h2⟩}}
 |a::aa,b::bb,u,h=>by rw[mrg] at h;split at h;{rcases u7 h with rfl|h;{exact .inl ⟨a,xD,rfl⟩};{rcases fW h with⟨t,h1,h2⟩|⟨t,h1,h2⟩;{exact .inl ⟨t,xI _ h1,h2⟩};{exact .inr ⟨t,h1,h2⟩}}};{split at h;{rcases u7 h with rfl|h;{exact .inr ⟨b,xD,rfl⟩};{rcases fW h with⟨t,h1,h2⟩|⟨t,h1,h2⟩;{exact .inl ⟨t,h1,h2⟩};{exact .inr ⟨t,xI _ h1,h2⟩}}};{rcases u7 h with rfl|h;{exact .inl ⟨a,xD,rfl⟩};{rcases fW h with⟨t,h1,h2⟩|⟨t,h1,h2⟩;{exact .inl ⟨t,xI _ h1,h2⟩};{exact .inr ⟨t,xI _ h1,h2⟩}}}}
termination_by a b=>a.length+b.length
theorem Cn.mrg {c:Rat}:∀ {a b:List (Int×Rat)},Cn a->Cn b->Cn (mrg c a b)
 |[],[],_,_=>by rw[Go.Proofs.YtfainocfaddbdaaGreat.mrg];exact Cn.nil| a::aa,[],ha,hb=>by rw[Go.Proofs.YtfainocfaddbdaaGreat.mrg];refine Cn.pc (Cn.mrg ha.tail hb) fun u hu=>?_;rcases fW hu with⟨t,h1,h2⟩|⟨t,h1,h2⟩;{rw[<-h2];exact ha.lt t h1};{exact absurd h1 (by simp)}
 |[],b::bb,ha,hb=>by rw[Go.Proofs.YtfainocfaddbdaaGreat.mrg];refine Cn.pc (Cn.mrg ha hb.tail) fun u hu=>?_;rcases fW hu with⟨t,h1,h2⟩|⟨t,h1,h2⟩;{exact absurd h1 (by simp)};{rw[<-h2];exact hb.lt t h1}
 |a::aa,b::bb,ha,hb=>by
  rw[Go.Proofs.YtfainocfaddbdaaGreat.mrg];split;{rename_i hlt;refine Cn.pc (Cn.mrg ha.tail hb) fun u hu=>?_;rcases fW hu with⟨t,h1,h2⟩|⟨t,h1,h2⟩;{rw[<-h2];exact ha.lt t h1};{rw[<-h2];rcases z9.1 h1 with rfl|h1;{exact hlt};{exact Int.lt_trans hlt (hb.lt t h1)}}}
  ·split;{rename_i _ hlt;refine Cn.pc (Cn.mrg ha hb.tail) fun u hu=>?_;rcases fW hu with⟨t,h1,h2⟩|⟨t,h1,h2⟩;{rw[<-h2];rcases z9.1 h1 with rfl|h1;{exact hlt};{exact Int.lt_trans hlt (ha.lt t h1)}};{rw[<-h2];exact hb.lt t h1}}
   ·(have:a.1=b.1:=by omega);refine Cn.pc (Cn.mrg ha.tail hb.tail) fun u hu=>?_
    rcases fW hu with⟨t,h1,h2⟩|⟨t,h1,h2⟩;{rw[<-h2];exact ha.lt t h1};{rw[<-h2,this];exact hb.lt t h1}
termination_by a b=>a.length+b.length
theorem sL (v:Int)(q:Rat)(r):(pc v q r).length<=r.length+1:=by unfold pc;split <;> simp
theorem sH (c:Rat):∀ (a b:List (Int×Rat)),(mrg c a b).length<=a.length+b.length
 |[],[]=>by rw[mrg];simp| a::aa,[]=>by rw[mrg];have:=sL a.1 a.2 (mrg c aa []);have:=sH c aa [];simp only[x7] at *;omega| [],b::bb=>by rw[mrg];have:=sL b.1 (b.2*c) (mrg c [] bb);have:=sH c [] bb;simp only[x7] at *;omega| a::aa,b::bb=>by rw[mrg];split;{have:=sL a.1 a.2 (mrg c aa (b::bb));have:=sH c aa (b::bb);simp only[x7] at *;omega};{split;{have:=sL b.1 (b.2*c) (mrg c (a::aa) bb);have:=sH c (a::aa) bb;simp only[x7] at *;omega};{have:=sL a.1 (a.2+b.2*c) (mrg c aa bb);have:=sH c aa bb;simp only[x7] at *;omega}}
termination_by a b=>a.length+b.length
def F.merge (f g:F) (c:Rat):F:=⟨mrg c f.ts g.ts,f.c+g.c*c⟩
def F.add (f g:F):F:=f.merge g 1
def F.sub (f g:F):F:=f.merge g (-1)
def F.scale (f:F) (c:Rat):F:=F.merge ⟨[],0⟩ f c
theorem nH {c:Rat}{k m:Nat}(hc:Fits m c):∀ {a b:List (Int×Rat)},(∀ t,t∈a->Fits k t.2)->(∀ t,t∈b->Fits k t.2)->∀ u,u∈mrg c a b->Fits (2*k+m+1) u.2
 |[],[],_,_,u,h=>by rw[mrg] at h;exact absurd h (by simp)| a::aa,[],ha,hb,u,h=>by rw[mrg] at h;rcases u7 h with rfl|h;{exact (ha a xD).mono oM};{exact nH hc (fun t ht=>ha t (xI _ ht)) hb u h}
 |[],b::bb,ha,hb,u,h=>by rw[mrg] at h;rcases u7 h with rfl|h;{exact (uB (hb b xD) hc).mono oM};{exact nH hc ha (fun t ht=>hb t (xI _ ht)) u h}
 |a::aa,b::bb,ha,hb,u,h=>by rw[mrg] at h;split at h;{rcases u7 h with rfl|h;{exact (ha a xD).mono oM};{exact nH hc (fun t ht=>ha t (xI _ ht)) hb u h}};{split at h;{rcases u7 h with rfl|h;{exact (uB (hb b xD) hc).mono oM};{exact nH hc ha (fun t ht=>hb t (xI _ ht)) u h}};{rcases u7 h with rfl|h;{exact (gG (ha a xD) (uB (hb b xD) hc)).mono oM};{exact nH hc (fun t ht=>ha t (xI _ ht)) (fun t ht=>hb t (xI _ ht)) u h}}}
termination_by a b=>a.length+b.length
theorem okQ {p:Prop}(h:p:=by (try simp only[zK,zH] at *) <;> (try dsimp only [zI] at *) <;> omega):p:=h
theorem aO {t base x d ps K n b z xs}(ht:ty t=.sli n b z){m o len els}(hK:K ⟨uH (wX (scr m) ps.tmps) d (.osl m n (fun _=>0) (fun _=>(els ()).length+(xs ()).length)),y5 (scr m) (xT ps.objs m)++[(m,.arr n (fun _=>els ()++xs ()))]⟩)(hb:ev (zA ps.tmps) base=.osl m n o len:=by exact rfl)(ho:yA ps.objs m=some (.arr n els):=by exact rfl)(ho0:o ()=0:=by exact rfl)(hl:len ()=(els ()).length:=by simp[zK,yI])(hx:ev (zA ps.tmps) x=.sl xs:=by exact rfl)(hw:Wid n xs:=by exact⟨by simp[yI,x6]⟩)(hr:Room (fun _=>(((els ()).length+(xs ()).length:Nat):Int)) b:=by exact yB (by simp[yI,zK] <;> omega) (by simp[yI,zK] at *;(try dsimp only [zI] at *);omega))(hf:yJ m ⟨wX (scr m) ps.tmps,y5 (scr m) (xT ps.objs m)⟩=true:=by exact rfl):AppK t base x (some d) ps K:=zKY ht hb ho ho0 hl hx hw hr hf hK
theorem uX {α:Type}{l:List α}{i:Nat}{t:α}(h:l[i]?=some t):l.drop i=t::l.drop (i+1):=by obtain⟨h1,h2⟩:=v4.1 h;rw[<-h2,c7 h1]
theorem zCO (vars p:Int)(t r):vT vars p (t::r)=(decide (0<=t.1)&&decide (t.1<vars)&&decide (p<t.1)&&decide (t.2.q≠0)&&t.2.ok&&vT vars t.1 r):=rfl
theorem sgnQ_ne {q:Rat}:xF q≠0↔q≠0:=by unfold xF;split <;> (try split) <;> grind
theorem b6 (a:A)(vars:Int)(ha:a.sz (2^36)):zG 80 [av a,.int .i64 (fun _=>vars)] (.bool (fun _=>a.valid vars)):=by
 refine sF Tryz.f80 ?_;obtain⟨ts,c⟩:=a;have hl:=ha.t.len;have hts:=ha.t.sz;have cc:=s103 c ha.c;generalize hr:A.valid vars ⟨ts,c⟩=r;have hr0:r=(vT vars (-1) ts&&c.ok):=hr.symm;simp only at hl hts cc;generalize c.ok=co at *
 clear hr ha;cbv;refine zX (σ:=Nat×Int) (fun s=>⟨[(1,.int .i64 (fun _=>vars)),(2,.ptr 2 0),(8,tsv ts),(9,.int .i64 (fun _=>(ts.length:Int))),(10,.int .i64 (fun _=>(s.1:Int)))],[(2,.box [tsv ts,.bool (fun _=>c.neg),nat c.num,nat c.den])]⟩)
  (fun s=>s.1<=ts.length/\r=(vT vars s.2 (ts.drop s.1)&&co)/\(s.1=0->s.2=-1)/\(s.1≠0->∃ u,ts[s.1-1]?=some u/\u.1=s.2)) (fun s=>ts.length-s.1)
  (0,-1) ⟨om,hr0,fun _=>rfl,fun h=>absurd rfl h⟩ (.le ?_ ?_ rfl) ?_
 {cbv;exact⟨lR,lR,lR,zE (by (try dsimp only [zI] at *);rw[zK]),lR,trivial⟩};{cbv;exact okA};intro s hs;obtain⟨h1,hv,h3,h4⟩:=hs;generalize s.1=i at *
 generalize s.2=p at *
 cbv;refine zD (fun h5=>?_) (fun h5=>?_)
 ·(cbv;refine pM (l:=ts) i om om kG jE (fun t ht=>?_);rw[uX ht,zCO] at hv;have htz:=hts t (zZ ht);have cs:=s86 t.2 (by have:=htz.n;omega);have cv:=s103 t.2 htz;have hq:decide (t.2.q≠0)=decide (xF t.2.q≠0):=by rw[decide_eq_decide];exact sgnQ_ne.symm);rw[hq] at hv
  generalize xF t.2.q=sg at *
  generalize hok:t.2.ok=ok at *
  (obtain⟨v,x1,x2,x3⟩:=t;simp only at hv;generalize hrest:(vT vars v (ts.drop (i+1))&&co)=rest;have hv':r=(decide (0<=v)&&decide (v<vars)&&decide (p<v)&&decide (sg≠0)&&ok&&rest):=by rw[hv,<-hrest];simp only[Bool.and_assoc]);clear hv
  cbv;refine zT 37 (by cbv) ?_;cbv;refine yD (fun e1=>?_) (fun e1=>?_)
  ·cbv
   (refine rC ?_;cbv)
   exact z5 (by rw[hv',decide_eq_false oM];rfl)
  cbv;refine yD (fun e2=>?_) (fun e2=>?_)
  ·cbv
   (refine rC ?_;cbv)
   exact z5 (by rw[hv',decide_eq_false (p:=v<vars) oM];simp)
  (cbv;have fin:(¬(p<v)->r=false):=fun h=>by rw[hv',decide_eq_false (p:=p<v) h];simp);have hmain:(p<v)->r=(decide (sg≠0)&&ok&&rest):=fun h=>by rw[hv',decide_eq_true (p:=p<v) h,decide_eq_true (p:=0<=v) oM,decide_eq_true (p:=v<vars) oM];simp only[wM]
  clear hv';refine yD (fun e3=>?_) (fun e3=>?_)
  ·(obtain⟨u,hu,hu2⟩:=h4 om;cbv;refine⟨zC om om,pM (l:=ts) (i-1) om om kG jE (fun u' hu'=>?_)⟩;have:u'=u:=by rw[hu] at hu';exact (vC hu').symm);subst this
   obtain⟨w,y1,y2,y3⟩:=u';simp only at hu2;cbv;refine yD (fun e4=>?_) (fun e4=>?_)
   ·cbv
    (refine rC ?_;cbv)
    exact z5 (fin oM)
   have hm:=hmain oM;cbv;refine dA cs ?_;cbv;refine yD (fun e5=>?_) (fun e5=>?_)
   ·cbv
    (refine rC ?_;cbv)
    exact z5 (by rw[hm,decide_eq_false (by simpa using e5)];rfl)
   rw[decide_eq_true e5,wM] at hm;cbv;refine dA cv ?_;cbv;refine z6 (fun e6=>?_) (fun e6=>?_);{rw[e6,wM] at hm;cbv;exact⟨zC om om,(i+1,v),⟨om,by rw[hm,hrest],fun h=>absurd h (by simp),fun _=>⟨_,ht,rfl⟩⟩,om,.le (by cbv;exact⟨lR,lR,lR,lR,zE om,trivial⟩) (by cbv;exact okA) rfl⟩}
   ·cbv
    (refine rC ?_;cbv)
    exact z5 (by rw[hm,e6];rfl)
  ·have hp:=h3 om;have hm:=hmain oM;cbv;refine dA cs ?_;cbv;refine yD (fun e5=>?_) (fun e5=>?_)
   ·cbv
    (refine rC ?_;cbv)
    exact z5 (by rw[hm,decide_eq_false (by simpa using e5)];rfl)
   rw[decide_eq_true e5,wM] at hm;cbv;refine dA cv ?_;cbv;refine z6 (fun e6=>?_) (fun e6=>?_);{rw[e6,wM] at hm;cbv;exact⟨zC om om,(i+1,v),⟨om,by rw[hm,hrest],fun h=>absurd h (by simp),fun _=>⟨_,ht,rfl⟩⟩,om,.le (by cbv;exact⟨lR,lR,lR,lR,zE om,trivial⟩) (by cbv;exact okA) rfl⟩}
   ·cbv
    (refine rC ?_;cbv)
    exact z5 (by rw[hm,e6];rfl)
 ·(have he:i=ts.length:=om;rw[he,vG] at hv;have hv':r=co:=by rw[hv];rfl);cbv
  refine cA cc ?_;cbv
  (refine rC ?_;cbv)
  exact yX hv'.symm
theorem zT6 {rs:List ResultVar}{r:PV}{ps ps':PS}{n:Nat}{o:Obj'}(m:Nat)(hw:Wk ps ps')(h3:lv r=true)(h4:yA ps'.objs m=some (x9 (ren (fun _=>m)) o))(h5:c6 o=true) (h:match b7 ps' rs with
  |some l=>les (eI l) (ren (fun _=>m) r)| none=>False):RetOk rs r [] [(n,o)] ps:=by
 cases h1:b7 ps' rs with
 |none=>rw[h1] at h;exact h.elim| some l=>rw[h1] at h;exact⟨ps',l,fun _=>m,hw,h1,aG h,h3,⟨⟨h4,h5⟩,trivial⟩,rfl,trivial⟩
theorem zK5 {rs:List ResultVar}{r:PV}{ps:PS}(ps':PS)(hw:Wk ps ps')(h3:lv r=true) (h:match b7 ps' rs with
  |some l=>les (eI l) (ren id r)| none=>False):RetOk rs r [] [] ps:=by
 cases h1:b7 ps' rs with
 |none=>rw[h1] at h;exact h.elim| some l=>rw[h1] at h;exact⟨ps',l,id,hw,h1,aG h,h3,trivial,rfl,trivial⟩
theorem uF {p:Prop}[Decidable p]{A B:Unit->Prop}(h:p)(h1:A ()):Br (fun _=>decide p) A B:=yD (fun _=>h1) (fun g=>(g h).elim)
theorem zXD {p:Prop}[Decidable p]{A B:Unit->Prop}(h:¬p)(h1:B ()):Br (fun _=>decide p) A B:=yD (fun g=>(h g).elim) (fun _=>h1)
theorem nR {p:Prop}[Decidable p]{A B:(Exit->PS->Prop)->Prop}{Q:Exit->PS->Prop}(h:p)(h1:A Q):Cut (fun _=>decide p) A B Q:=zD (fun _=>h1) (fun g=>(g h).elim)
theorem cW {p:Prop}[Decidable p]{A B:(Exit->PS->Prop)->Prop}{Q:Exit->PS->Prop}(h:¬p)(h1:B Q):Cut (fun _=>decide p) A B Q:=zD (fun g=>(h g).elim) (fun _=>h1)
def pcr (l:List (Int×Rat)) (v:Int) (q:Rat):List (Int×Rat):=if q=0 then l else l++[(v,q)]
theorem nD (l:List (Int×Rat))(v:Int)(q:Rat)(r):pcr l v q++r=l++pc v q r:=by unfold pcr pc;split <;> simp
theorem uZ (l:List (Int×Rat)):(tR l).length=l.length:=by simp[tR]
theorem zX4 (l m:List (Int×Rat)):tR (l++m)=tR l++tR m:=by simp[tR]
theorem zNK:ty 23=.sli 4 64 [.int .i64 (fun _=>0),.ff,.nil,.nil]:=by cbv
theorem nC (l:List (Int×Rat))(v:Int)(q:Rat):(pcr l v q).length<=l.length+1:=by unfold pcr;split <;> simp
theorem zUW (t:Int×R)(l):tq (t::l)=(t.1,t.2.q)::tq l:=rfl
theorem zVJ (z:Int)(h1:-1000<=z)(h2:z<=1000):(zJ (z:Rat)).sz 1:=yF (aL (by show z.natAbs<4294967296^1;omega) (by decide))
structure Row where
 k:Int
 i:Int
 lo:Int
 hi:Int
deriving DecidableEq
structure Mult where
 row:Row
 c:R
deriving DecidableEq
structure Dec where
 k:Int
 i:Int
 x:R
structure Lem where
 u:Int
 up:Bool
 v:R
 pf:List Mult
structure Grp where
 n:Int
 us:List A
 os:List A
structure Reg where
 lo:List R
 hi:List R
 rows:List A
structure Qry where
 g:Grp
 r:Reg
 goal:A
structure Scp where
 q:Qry
 path:List Dec
 lems:List Lem
abbrev rlv (l:List R):PV:=.sl (fun _=>enc rc l)
abbrev alv (l:List A):PV:=.sl (fun _=>enc ac l)
def mc (m:Mult):List PV:=[.int .i64 (fun _=>m.row.k),.int .i64 (fun _=>m.row.i),.int .i64 (fun _=>m.row.lo),.int .i64 (fun _=>m.row.hi),.bool (fun _=>m.c.neg),nat m.c.num,nat m.c.den]
abbrev mlv (l:List Mult):PV:=.sl (fun _=>enc mc l)
def dc (d:Dec):List PV:=[.int .i64 (fun _=>d.k),.int .i64 (fun _=>d.i),.bool (fun _=>d.x.neg),nat d.x.num,nat d.x.den]
abbrev dv (d:Dec):PV:=.agg [.int .i64 (fun _=>d.k),.int .i64 (fun _=>d.i),.bool (fun _=>d.x.neg),nat d.x.num,nat d.x.den]
abbrev dlv (l:List Dec):PV:=.sl (fun _=>enc dc l)
def lc (l:Lem):List PV:=[.int .i64 (fun _=>l.u),.bool (fun _=>l.up),.bool (fun _=>l.v.neg),nat l.v.num,nat l.v.den,mlv l.pf]
abbrev llv (l:List Lem):PV:=.sl (fun _=>enc lc l)
def sc (s:Scp):List PV:=[.int .i64 (fun _=>s.q.g.n),alv s.q.g.us,alv s.q.g.os,rlv s.q.r.lo,rlv s.q.r.hi,alv s.q.r.rows,tsv s.q.goal.ts,.bool (fun _=>s.q.goal.c.neg),nat s.q.goal.c.num,nat s.q.goal.c.den,dlv s.path,llv s.lems]
structure Asz (k:Nat) (l:List A):Prop where
 len:l.length<2^38
 sz:∀ a,a∈l->a.sz k
theorem Asz.mono {k m:Nat}{l}(h:Asz k l)(hm:k<=m):Asz m l:=⟨h.len,fun a ha=>(h.sz a ha).mono hm⟩
theorem eU:∀ a:PV,les a a
 |.agg cs=>allLe_refl1 cs| .tup cs=>allLe_refl1 cs| .fn f cs=>⟨nqb_self f,allLe_refl1 cs⟩| .int k n=>lR| .tt=>lR| .ff=>lR| .bool b=>lR| .nbool b=>lR| .str s=>lR| .nil=>lR| .sl els=>lR| .ptr n o=>lR| .aptr n s i o=>lR| .dptr cs o=>lR| .osl n s o l=>lR| .nilf=>lR| .nilp=>lR| .emp=>lR| .any=>lR
where
 les1_refl:∀ a:PV,les1 a a
  |.agg cs=>allLeS_refl cs| .tup cs=>allLeS_refl cs| .fn f cs=>lR| .int k n=>lR| .tt=>lR| .ff=>lR| .bool b=>lR| .nbool b=>lR| .str s=>lR| .nil=>lR| .sl els=>lR| .ptr n o=>lR| .aptr n s i o=>lR| .dptr cs o=>lR| .osl n s o l=>lR| .nilf=>lR| .nilp=>lR| .emp=>lR| .any=>lR
 allLeS_refl:∀ l:List PV,fO LeS l l
  |[]=>trivial| a::r=>⟨rS a,allLeS_refl r⟩
 allLe_refl1:∀ l:List PV,fO les1 l l
  |[]=>trivial| a::r=>⟨les1_refl a,allLe_refl1 r⟩
theorem zF8:∀ l:List PV,fO les l l
 |[]=>trivial| a::r=>⟨eU a,zF8 r⟩
def selT (T:List (Nat×PV)):List Nat->List (Nat×PV)
 |[]=>[]| t::r=>(t,zA T t)::selT T r
def selO (O:List (Nat×Obj')):List Nat->List (Nat×Obj')
 |[]=>[]
 |n::r=>(match yA O n with
  |some o=>(n,o)::selO O r| none=>selO O r)
def ndN:List Nat->Bool
 |[]=>true| n::r=>!(z8 n r)&&ndN r
theorem zJ3:∀ (hs:List (PV×(Unit->Nat))),hLe hs hs
 |[]=>trivial| (v,k)::r=>⟨⟨lR,lR⟩,zJ3 r⟩
theorem zLT:∀ o:Obj',zG2 o o
 |.mat s r hs=>⟨nqb_self s,⟨rfl⟩,zJ3 hs⟩| .box cs=>zF8 cs| .arr s e=>⟨nqb_self s,⟨rfl⟩⟩| .log s e=>⟨nqb_self s,⟨rfl⟩⟩| .lent s e=>⟨nqb_self s,⟨rfl⟩⟩
theorem zOE (T:List (Nat×PV)):∀ L,leT T (selT T L)
 |[]=>trivial| t::r=>⟨eU _,zOE T r⟩
theorem zHL (O:List (Nat×Obj')):∀ M,leO O (selO O M)
 |[]=>trivial| n::r=>by
  unfold selO;cases h:yA O n with
  |none=>exact zHL O r| some o =>
   refine⟨?_,zHL O r⟩;rw[h];exact zLT o
theorem zD2 (O:List (Nat×Obj'))(m:Nat):∀ M,z8 m M=false->hasN m (selO O M)=false
 |[],_=>rfl| n::r,h=>by
  simp only[z8,Bool.or_eq_false_iff] at h;unfold selO;cases yA O n with
  |none=>exact zD2 O m r h.2| some o =>
   simp only[hasN,Bool.or_eq_false_iff];refine⟨?_,zD2 O m r h.2⟩;have:=h.1;cases hx:nqb n m with
   |false=>rfl| true=>rw[yM hx,nqb_self] at this;cases this
theorem zHI (O:List (Nat×Obj')):∀ M,ndN M=true->ndO (selO O M)=true
 |[],_=>rfl| n::r,h=>by
  simp only[ndN,y9,zLH] at h;unfold selO;cases yA O n with
  |none=>exact zHI O r h.2| some o =>
   simp only[ndO,y9,zLH];exact⟨zD2 O n r h.1,zHI O r h.2⟩
theorem Wk.sel (ps:PS)(L M:List Nat)(h:ndN M=true):Wk ps ⟨selT ps.tmps L,selO ps.objs M⟩:=.le (zOE _ _) (zHL _ _) (zHI _ _ h)

theorem kT {α:Type}{l:List α}{i:Nat}(h:i<l.length):∃ a,l[i]?=some a:=⟨l[i],by simp[h]⟩
abbrev R0:R:=⟨false,[],[]⟩
def F.var (v:Int):F:=⟨[(v,1)],0⟩

theorem xC {α:Type}{p:α->List PV}{n:Nat}{l:List α}{i:Nat}{a:α}{K:List PV->Prop}(h:l[i]?=some a)(hf:∀ a,yV jN (p a)=true)(hn:∀ a,(p a).length=n)(hK:K (p a)):IdxOk n (fun _=>enc p l) (fun _=>(i:Int)) K :=
 pM (l:=l) i rfl (v4.1 h).1 hf hn (fun a' ha'=>by rw[h] at ha';cases ha';exact hK)
theorem zOH {α:Type}{p:α->List PV}{n:Nat}{l:List α}{i:Nat}{k:Int}{a:α}{K:List PV->Prop}(h:l[i]?=some a)(hk:k=(i:Int))(hf:∀ a,yV jN (p a)=true)(hn:∀ a,(p a).length=n)(hK:K (p a)):IdxOk n (fun _=>enc p l) (fun _=>k) K :=
 pM (l:=l) i hk (v4.1 h).1 hf hn (fun a' ha'=>by rw[h] at ha';cases ha';exact hK)
theorem j8 {α:Type}{p:α->List PV}{l:List α}{i:Nat}(h:(i:Int)<((enc p l).length:Int)):i<l.length:=by rw[zK] at h;omega
theorem cV {α:Type}{p:α->List PV}{l:List α}{i:Nat}(h:¬(i:Int)<((enc p l).length:Int))(h2:i<=l.length):i=l.length:=by rw[zK] at h;omega
end Go.Proofs.YtfainocfaddbdaaGreat
