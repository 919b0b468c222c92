/- A part of the proof: ReE, ReF, ReG, ReH, AfA, LnA, LnB, DtA, HfA, VaA, RwA, RwB. -/
import Derived.Test.YtfainocfaddbdaaGreatT23
set_option linter.all false
namespace Go.Proofs.YtfainocfaddbdaaGreat
open Go
set_option maxRecDepth 100000
set_option maxHeartbeats 1000000
theorem s158 (a b:List UInt32)(ha:a.length<2^34)(hb:b.length<2^34):zM 118 [nat a,nat b] (nat (zD (Nat.gcd (val a) (val b)))):=by
 refine sF Tryz.f118 ?_;have ha':=Nat.lt_of_le_of_lt (zT a) ha;have hb':=Nat.lt_of_le_of_lt (zT b) hb;generalize hg:Nat.gcd (val a) (val b)=g;cbv;refine cA (sR a (by omega)) ?_;cbv;refine cA (sR b (by omega)) ?_;cbv;refine yB (σ:=Nat×Nat) (fun z=>⟨[(0,nat (zD z.1)),(1,nat (zD z.2))],[]⟩) (fun z=>(zD z.1).length<2^34/\(zD z.2).length<2^34/\Nat.gcd z.1 z.2=g) (fun z=>z.2) (val a,val b) ⟨ha',hb',hg⟩ (.le ?_ trivial rfl) ?_;{cbv;exact okA};intro z hz;obtain⟨h1,h2,h3⟩:=hz;generalize z.1=x at *
 generalize z.2=y at *
 cbv;refine zF (fun h4=>?_) (fun h4=>?_)
 ·(have hy:y≠0:=fun e=>by subst e;(try dsimp only [zJ] at *);simp[lm,z6] at h4);have hm:=Nat.mod_lt x (Nat.pos_of_ne_zero hy)
  have c1:=s159 (zD x) (zD y) h1 h2 (by rw[zK];exact hy);rw[zK,zK] at c1;cbv;refine cA c1 ?_;cbv;refine⟨(y,x%y),⟨h2,Nat.lt_of_le_of_lt (v4 (Nat.le_of_lt hm)) h2,by rw[Nat.gcd_comm,<-Nat.gcd_rec,Nat.gcd_comm];exact h3⟩,hm,.le ?_ trivial rfl⟩;cbv;exact okA
 ·have hy:y=0:=xI.1 (List.eq_nil_of_length_eq_zero (by (try dsimp only [zJ] at *);rw[zG] at h4;omega));subst hy;cbv
  (refine rC ?_;cbv)
  exact zX (by rw[<-h3,Nat.gcd_zero_right])
theorem s148 (neg:Bool)(m:List UInt32)(hm:m.length<2^40):zM 116 [.bool (fun _=>neg),nat m] (zv (xH (sgn neg (val m)))):=by
 refine sF Tryz.f116 ?_;rw[zC1];cbv;refine cA (sR m (by omega)) ?_;cbv;refine vA (fun h=>?_) (fun h=>?_)
 ·subst h;cbv
  (refine rC ?_;cbv)
  refine⟨zI ?_,lR,trivial⟩;rw[Bool.eq_iff_iff];simp only[decide_eq_true_eq,zG,Bool.true_and];rw[<-@xI (val m),<-List.length_eq_zero_iff]
  (try dsimp only [zJ] at *)
  omega
 ·subst h;cbv
  (refine rC ?_;cbv)
  exact okA
theorem s88 (x:Int)(h1:-9223372036854775808<=x)(h2:x<9223372036854775808):zM 67 [.int .i64 (fun _=>x)] (zv (xH x)):=by
 refine sF Tryz.f67 ?_;have hBB:B*B=18446744073709551616:=by decide
 have hl:(zD x.natAbs).length<=2:=len2.2 (by omega);have c1:=s148 true (zD x.natAbs) (by omega);have c2:=s148 false (zD x.natAbs) (by omega);have c3:=s149 x.natAbs (by omega);rw[zK] at c1 c2;have e1:x<0->sgn true x.natAbs=x:=fun h=>by show -(x.natAbs:Int)=x;omega
 have e2:¬x<0->sgn false x.natAbs=x:=fun h=>by show (x.natAbs:Int)=x;omega
 have n1:x<0->nx .u64 (0-nx .u64 x)=((x.natAbs:Nat):Int):=fun h=>by simp only[wT];omega
 have n2:¬x<0->nx .u64 x=((x.natAbs:Nat):Int):=fun h=>by simp only[wT];omega
 generalize x.natAbs=n at *
 cbv;refine zF (fun h=>?_) (fun h=>?_)
 ·rw[e1 h] at c1;generalize xH x=W at *
  have n3:=n1 h;cbv;refine wA rfl (by exact⟨zC n3,trivial⟩) c3 rfl ?_;cbv;refine cA c1 ?_;cbv
  (refine rC ?_;cbv)
  exact okA
 ·rw[e2 h] at c2;generalize xH x=W at *
  have n3:=n2 h;cbv;refine wA rfl (by exact⟨zC n3,trivial⟩) c3 rfl ?_;cbv;refine cA c2 ?_;cbv
  (refine rC ?_;cbv)
  exact okA
theorem s90 (x:Z)(hx:x.mag.length<2^40):zM 74 [zv x] (.int .i64 (fun _=>uS x.v)):=by
 refine sF Tryz.f74 ?_;have c1:=s148 x.neg x.mag hx;have e:sgn x.neg (val x.mag)=x.v:=rfl;rw[e] at c1;have hneg:(xH x.v).neg=decide (x.v<0):=rfl;have hmag:(xH x.v).mag.length=0↔x.v=0:=by show (zD x.v.natAbs).length=0↔_;rw[List.length_eq_zero_iff,xI];omega
 have e0:x.v=0->uS x.v=0:=fun h=>by rw[h];rfl
 have e1:x.v<0->uS x.v=-1:=fun h=>by unfold uS;rw[if_pos h]
 have e2:¬x.v<0->x.v≠0->uS x.v=1:=fun h h'=>by unfold uS;rw[if_neg h,if_pos (by omega)]
 generalize uS x.v=s at *
 generalize xH x.v=W at *
 generalize x.v=v at *
 obtain⟨a,m⟩:=x;obtain⟨w1,w2⟩:=W;simp only at hneg hmag;cbv;refine cA c1 ?_;cbv;refine zF (fun h=>?_) (fun h=>?_)
 ·cbv
  (refine rC ?_;cbv)
  exact zC (e0 (hmag.1 om)).symm
 ·have hv:v≠0:=fun e=>h (by have:=hmag.2 e;(try dsimp only [zJ] at *);rw[zG];omega);cbv;refine z9 (fun h2=>?_) (fun h2=>?_)
  ·cbv
   (refine rC ?_;cbv)
   exact zC (e1 (of_decide_eq_true (hneg.symm.trans h2))).symm
  ·cbv
   (refine rC ?_;cbv)
   exact zC (e2 (of_decide_eq_false (hneg.symm.trans h2)) hv).symm
theorem s101 (x y:Z)(hx:x.mag.length<2^38)(hy:y.mag.length<2^38):zM 75 [zv x,zv y] (zv (xH (x.v+y.v))):=by
 refine sF Tryz.f75 ?_;obtain⟨n1,m1⟩:=x;obtain⟨n2,m2⟩:=y;have hv:Z.v ⟨n1,m1⟩+Z.v ⟨n2,m2⟩=sgn n1 (val m1)+sgn n2 (val m2):=rfl;have hl:=zF0 m1 m2;have hl1:=nK m1 m2;have hl2:=nK m2 m1;have hx':m1.length<2^38:=hx;have hy':m2.length<2^38:=hy;rw[hv];have c1:n1=n2->zM 116 [.bool (fun _=>n1),nat (zD (val m1+val m2))] (zv (xH (sgn n1 (val m1)+sgn n2 (val m2)))):=by
  (intro h;have:=s148 n1 (zD (val m1+val m2)) (by omega);rw[zK] at this;have e:sgn n1 (val m1+val m2)=sgn n1 (val m1)+sgn n2 (val m2):=by rw[<-h];cases n1 <;> simp[sgn];omega);rw[e] at this
  exact this
 have c2:n1≠n2->val m2<=val m1->zM 116 [.bool (fun _=>n1),nat (zD (val m1-val m2))] (zv (xH (sgn n1 (val m1)+sgn n2 (val m2)))):=by
  (intro h hge;have:=s148 n1 (zD (val m1-val m2)) (by omega);rw[zK] at this;have e:sgn n1 (val m1-val m2)=sgn n1 (val m1)+sgn n2 (val m2):=by cases n1 <;> cases n2 <;> simp[sgn] at h ⊢ <;> omega);rw[e] at this
  exact this
 have c3:n1≠n2->¬val m2<=val m1->zM 116 [.bool (fun _=>n2),nat (zD (val m2-val m1))] (zv (xH (sgn n1 (val m1)+sgn n2 (val m2)))):=by
  (intro h hge;have:=s148 n2 (zD (val m2-val m1)) (by omega);rw[zK] at this;have e:sgn n2 (val m2-val m1)=sgn n1 (val m1)+sgn n2 (val m2):=by cases n1 <;> cases n2 <;> simp[sgn] at h ⊢ <;> omega);rw[e] at this
  exact this
 have cs1:=s157 m1 m2 (by omega) (by omega);have cs2:=s157 m2 m1 (by omega) (by omega);have hE1:val m2<=val m1->(if val m2<=val m1 then (0:Int) else 2)=0:=fun h=>if_pos h;have hE2:¬val m2<=val m1->(if val m2<=val m1 then (0:Int) else 2)=2:=fun h=>if_neg h;generalize (if val m2<=val m1 then (0:Int) else 2)=E at *
 generalize (if val m1<=val m2 then (0:Int) else 2)=E' at *
 generalize sgn n1 (val m1)+sgn n2 (val m2)=T at *
 cbv;refine zF (fun h=>?_) (fun h=>?_)
 ·have h':=c1 h;generalize xH T=W at *
  cbv;refine zZ 8 (by cbv) ?_;cbv;refine dA (s156 m1 m2 (by omega) (by omega)) ?_;cbv;refine dA h' ?_;cbv
  (refine rC ?_;cbv)
  exact okA
 ·have h2:=c2 h;have h3:=c3 h;generalize xH T=W at *
  cbv;refine cA cs1 ?_;cbv;refine zF (fun h4=>?_) (fun h4=>?_)
  ·(have hge:val m2<=val m1:=by rcases Nat.lt_or_ge (val m1) (val m2) with e|e;{have:=hE2 (by omega);omega};{exact e});cbv;refine cA (h2 hge) ?_;cbv
   (refine rC ?_;cbv)
   exact okA
  ·have hlt:¬val m2<=val m1:=fun e=>h4 (hE1 e);cbv;refine cA cs2 ?_;cbv;refine cA (h3 hlt) ?_;cbv
   (refine rC ?_;cbv)
   exact okA
def fR (d:List UInt32):List UInt32:=zD (if val d=0 then 1 else val d)
theorem rJ (x:R):val (fR x.den)=x.d:=by unfold fR R.d;rw[zK]
theorem zA4 (d:List UInt32):(fR d).length<=d.length+1:=by unfold fR;split;{rw[mA];simp};{have:=zT d;omega}
theorem s100 (d:List UInt32)(hd:d.length<2^40):zM 71 [nat d] (nat (fR d)):=by
 refine sF Tryz.f71 ?_;have c1:=sR d (by omega);have e1:(zD (val d)).length=0->fR d=[1]:=fun h=>by unfold fR;rw[if_pos (xI.1 (List.eq_nil_of_length_eq_zero h)),mA]
 have e2:(zD (val d)).length≠0->fR d=zD (val d):=fun h=>by unfold fR;rw[if_neg (fun e=>h (by rw[e,z6];rfl))]
 generalize fR d=u at *
 generalize zD (val d)=p at *
 cbv;refine cA c1 ?_;cbv;refine zF (fun h=>?_) (fun h=>?_)
 ·have:=e1 om;subst this;cbv
  (refine rC ?_;cbv)
  exact zX rfl
 ·have:=e2 (by (try dsimp only [zJ] at *);rw[zG] at h;omega);subst this;cbv
  (refine rC ?_;cbv)
  exact lR
theorem s102 (neg:Bool)(num den:List UInt32)(hn:num.length<2^33)(hd:den.length<2^33)(h0:val den≠0):zM 69 [.bool (fun _=>neg),nat num,nat den] (rv (zS (mkRat (sgn neg (val num)) (val den)))):=by
 refine sF Tryz.f69 ?_;rw[tP h0];have hg0:Nat.gcd (val num) (val den)≠0:=fun e=>h0 (Nat.eq_zero_of_gcd_eq_zero_right e);have hgl:(zD (Nat.gcd (val num) (val den))).length<2^33:=Nat.lt_of_le_of_lt (Nat.le_trans (v4 (Nat.le_of_dvd (Nat.pos_of_ne_zero h0) (Nat.gcd_dvd_right _ _))) (zT den)) hd;have cg:=s158 num den (by omega) (by omega);have cn:=s159 num (zD (Nat.gcd (val num) (val den))) (by omega) (by omega) (by rw[zK];exact hg0);have cd:=s159 den (zD (Nat.gcd (val num) (val den))) (by omega) (by omega) (by rw[zK];exact hg0);rw[zK] at cn cd;have hnz:val num/Nat.gcd (val num) (val den)=0↔val num=0:=by rw[Nat.div_eq_zero_iff_lt (Nat.pos_of_ne_zero hg0)];constructor;{intro h;rcases Nat.eq_zero_or_pos (val num) with e|e;{exact e};{have:=Nat.gcd_le_left (val den) e;omega}};{intro h;omega}
 have hdl:(zD (val den/Nat.gcd (val num) (val den))).length<2^33:=Nat.lt_of_le_of_lt (Nat.le_trans (v4 (Nat.div_le_self _ _)) (zT den)) hd;generalize val den/Nat.gcd (val num) (val den)=D' at *
 generalize val num/Nat.gcd (val num) (val den)=N' at *
 generalize Nat.gcd (val num) (val den)=g at *
 generalize val num=N at *
 show wp _ _ (bK _ (.agg [.bool (fun _=>neg&&decide (N≠0)),nat (zD N'),nat (if D'=1 then [] else zD D')]) [] []);have hN0:decide (N≠0)=decide (0<(zD N').length):=by rw[decide_eq_decide,List.length_pos_iff,ne_eq,ne_eq,xI,hnz]
 rw[hN0];have hone:=@kU D';generalize hr2:(if D'=1 then [] else zD D')=r2;have hr2a:zD D'=[1]->r2=[]:=fun h=>by rw[<-hr2,if_pos (hone.1 h)]
 have hr2b:zD D'≠[1]->r2=zD D':=fun h=>by rw[<-hr2,if_neg (fun e=>h (hone.2 e))]
 generalize zD D'=dl at *
 generalize zD N'=nl at *
 clear hr2 hone hN0 hnz;cbv;refine cA cg ?_;cbv;refine cA cn ?_;cbv;refine cA cd ?_;cbv;have one_of:∀ (h1:dl.length=1),((dl.getD 0 0).toNat:Int)=1↔dl=[1]:=by
  intro h1
  match dl,h1 with
  |[x],_ =>
   have e1:[x].getD 0 0=x:=rfl;rw[e1];constructor;{intro h2;have:x=1:=UInt32.toNat_inj.1 (by show x.toNat=1;omega);rw[this]};{intro h2;rw[List.cons.inj h2 |>.1];rfl}
 refine yG (fun h=>?_) (fun h=>?_)
 ·have h1:dl.length=1:=om;have ho:=one_of h1;cbv;refine y5 0 rfl (by omega) ?_;cbv;refine zF (fun h2=>?_) (fun h2=>?_)
  ·have h3:=hr2a (ho.1 h2);cbv;refine vA (fun h4=>?_) (fun h4=>?_)
   ·subst h4;cbv
    (refine rC ?_;cbv)
    exact⟨zI (by simp[zG]),lR,zN (by rw[h3];rfl),trivial⟩
   ·subst h4;cbv
    (refine rC ?_;cbv)
    exact⟨zL rfl,lR,zN (by rw[h3];rfl),trivial⟩
  ·have h3:=hr2b (fun e=>h2 (ho.2 e));cbv;refine vA (fun h4=>?_) (fun h4=>?_)
   ·subst h4;cbv
    (refine rC ?_;cbv)
    exact⟨zI (by simp[zG]),lR,zX (by rw[h3]),trivial⟩
   ·subst h4;cbv
    (refine rC ?_;cbv)
    exact⟨zL rfl,lR,zX (by rw[h3]),trivial⟩
 ·have h3:=hr2b (fun e=>h (by rw[e];rfl));cbv;refine vA (fun h4=>?_) (fun h4=>?_)
  ·subst h4;cbv
   (refine rC ?_;cbv)
   exact⟨zI (by simp[zG]),lR,zX (by rw[h3]),trivial⟩
  ·subst h4;cbv
   (refine rC ?_;cbv)
   exact⟨zL rfl,lR,zX (by rw[h3]),trivial⟩
theorem s47 (x:R)(hx:x.sz (2^32)):zM 110 [rv x] (rv (zS x.q)):=by
 refine sF Tryz.f110 ?_;have h1:=hx.n;have h2:=hx.d;have h3:=zA4 x.den;have cu:=s100 x.den (by omega);have cq:=s102 x.neg x.num (fR x.den) (by omega) (by omega) (by rw[rJ];exact x.d_ne);rw[rJ] at cq;have e:mkRat (sgn x.neg (val x.num)) x.d=x.q:=rfl;rw[e] at cq;generalize zS x.q=W at *
 generalize fR x.den=u at *
 obtain⟨neg,num,den⟩:=x;cbv;refine zZ 8 (by cbv) ?_;cbv;refine dA cu ?_;cbv;refine dA cq ?_;cbv
 (refine rC ?_;cbv)
 exact okA
theorem s35 (x:R)(hx:x.num.length<2^40):zM 31 [rv x] (.int .i64 (fun _=>xJ x.q)):=by
 refine sF Tryz.f31 ?_;have c2:=s90 ⟨x.neg,x.num⟩ hx;have e:Z.v ⟨x.neg,x.num⟩=x.n:=rfl;rw[e,<-zJH] at c2;generalize xJ x.q=s at *
 obtain⟨neg,num,den⟩:=x;cbv;refine cA c2 ?_;cbv
 (refine rC ?_;cbv)
 exact lR
theorem s143 (x:R)(hx:x.sz (2^32)):zM 122 [rv x] (rv (zS (-x.q))):=by
 refine sF Tryz.f122 ?_;have ca:=s47 ⟨!x.neg,x.num,x.den⟩ ⟨hx.n,hx.d⟩;rw[zKC] at ca;generalize zS (-x.q)=W at *
 obtain⟨a,b,c⟩:=x;generalize hna:(!a)=na at *
 cbv;refine wA rfl (by exact⟨⟨kM hna.symm,lR,lR,trivial⟩,trivial⟩) ca rfl ?_;cbv
 (refine rC ?_;cbv)
 exact okA
theorem s69 (x y:R)(hx:x.sz (2^32))(hy:y.sz (2^32)):zM 109 [rv x,rv y] (.bool (fun _=>decide (x=y))):=by
 refine sF Tryz.f109 ?_;have h1:=hx.n;have h2:=hx.d;have h3:=hy.n;have h4:=hy.d;have c1:=s130 x.num y.num (by omega) (by omega);have c2:=s130 x.den y.den (by omega) (by omega);obtain⟨a,b,c⟩:=x;obtain⟨a',b',c'⟩:=y;have hO:(decide ((⟨a,b,c⟩:R)=⟨a',b',c'⟩))=(decide (a=a')&&(decide (b=b')&&decide (c=c'))):=by rw[Bool.eq_iff_iff];simp only[decide_eq_true_eq,R.mk.injEq,Bool.and_eq_true]
 rw[hO];simp only at c1 c2;generalize decide (b=b')=d1 at *
 generalize decide (c=c')=d2 at *
 clear hO h1 h2 h3 h4 hx hy;generalize hr:(decide (a=a')&&(d1&&d2))=r;cbv;refine yG (fun h=>?_) (fun h=>?_)
 ·rw[show decide (a=a')=true from decide_eq_true h,Bool.true_and] at hr;cbv;refine cA c1 ?_;cbv;refine vA (fun h'=>?_) (fun h'=>?_)
  ·subst h';cbv;refine cA c2 ?_;cbv
   (refine rC ?_;cbv)
   exact zI (by rw[<-hr];rfl)
  ·subst h';cbv
   (refine rC ?_;cbv)
   exact zL (by rw[<-hr];rfl)
 ·rw[show decide (a=a')=false from decide_eq_false h,Bool.false_and] at hr;cbv
  (refine rC ?_;cbv)
  exact zL hr.symm
theorem s129 (x:R)(hx:x.sz (2^32)):zM 62 [rv x] (.bool (fun _=>x.ok)):=by
 refine sF Tryz.f62 ?_;have cc:=s47 x hx;have cs:=s69 x (zS x.q) hx (yZ (hx.fits (by decide)));have e:decide (x=zS x.q)=x.ok:=rfl;rw[e] at cs;generalize x.ok=o at *
 generalize zS x.q=W at *
 obtain⟨a,b,c⟩:=x;obtain⟨a',b',c'⟩:=W;cbv;refine zZ 4 (by cbv) ?_;cbv;refine dA cc ?_;cbv;refine dA cs ?_;cbv
 (refine rC ?_;cbv)
 exact lR
theorem zIJ (z:Int):zS (z:Rat)=⟨(xH z).neg,(xH z).mag,[]⟩:=by unfold zS xH;simp only[Rat.num_intCast,Rat.den_intCast,if_true];congr
theorem s32 (x:Int)(h1:-9223372036854775808<=x)(h2:x<9223372036854775808):zM 26 [.int .i64 (fun _=>x)] (rv (zS (x:Rat))):=by
 refine sF Tryz.f26 ?_;have c1:=s88 x h1 h2;rw[zIJ];generalize xH x=y at *
 obtain⟨a,b⟩:=y;cbv;refine cA c1 ?_;cbv
 (refine rC ?_;cbv)
 exact okA
def divZ (a b:Int):Rat:=Rat.divInt a b
theorem zI3 (a b:Bool)(n m:Nat):mkRat (sgn (a != b) n) m=divZ (sgn a n) (sgn b m):=by
 have h1:∀ (z:Int),Rat.divInt z (m:Int)=mkRat z m:=fun z=>Rat.divInt_ofNat z m;have h2:∀ (z:Int),Rat.divInt z (-(m:Int))=mkRat (-z) m:=fun z=>by rw[Rat.divInt_neg',h1]
 unfold divZ;cases b;{rw[show sgn false m=(m:Int) from rfl,h1];cases a <;> rfl};{rw[show sgn true m=-(m:Int) from rfl,h2];cases a;{rfl};{show mkRat (n:Int) m=mkRat (- -(n:Int)) m;rw[Int.neg_neg]}}
theorem s98 (x y:Z)(hx:x.mag.length<2^33)(hy:y.mag.length<2^33)(h0:y.v≠0):zM 125 [zv x,zv y] (.tup [rv (zS (divZ x.v y.v)),.int .i64 (fun _=>0)]):=by
 refine sF Tryz.f125 ?_;have cs:=s90 y (by omega);have hs:uS y.v≠0:=by unfold uS;split <;> (try split) <;> omega
 have hv0:val y.mag≠0:=fun e=>h0 (by unfold Z.v;rw[e,zCF]);have cq:=s102 (x.neg != y.neg) x.mag y.mag hx hy hv0;have e:mkRat (sgn (x.neg != y.neg) (val x.mag)) (val y.mag)=divZ x.v y.v:=by exact zI3 _ _ _ _
 rw[e] at cq;have hb:(x.neg != y.neg)=!decide (x.neg=y.neg):=by cases x.neg <;> cases y.neg <;> rfl
 generalize zS (divZ x.v y.v)=W at *
 generalize uS y.v=s at *
 obtain⟨a,b⟩:=x;obtain⟨a',b'⟩:=y;simp only at *
 generalize (a != a')=nb at *
 cbv;refine cA cs ?_;cbv;refine zF (fun h=>absurd h hs) (fun h=>?_);cbv;refine wA rfl (by exact⟨kM hb,lR,lR,trivial⟩) cq rfl ?_;cbv
 (refine rC ?_;cbv)
 exact okA
theorem s43 (x y:Int)(h1:-9223372036854775808<=x)(h2:x<9223372036854775808)(h3:-9223372036854775808<=y)(h4:y<9223372036854775808)(h0:y≠0):zM 77 [.int .i64 (fun _=>x),.int .i64 (fun _=>y)] (.tup [rv (zS (divZ x y)),.int .i64 (fun _=>0)]):=by
 refine sF Tryz.f77 ?_;have c1:=s88 x h1 h2;have c2:=s88 y h3 h4;have hl1:=iN x h1 h2;have hl2:=iN y h3 h4;have c3:=s98 (xH x) (xH y) (by omega) (by omega) (by rw[k9];exact h0);rw[k9,k9] at c3;generalize zS (divZ x y)=W at *
 generalize xH x=X at *
 generalize xH y=Y at *
 cbv;refine cA c1 ?_;cbv;refine cA c2 ?_;cbv;refine cA c3 ?_;cbv
 (refine rC ?_;cbv)
 exact okA
theorem s44 (x y:R)(hx:x.sz (2^31))(hy:y.sz (2^31)):zM 32 [rv x,rv y] (rv (zS (x.q+y.q))):=by
 refine sF Tryz.f32 ?_;have h1:=hx.n;have h2:=hx.d;have h3:=hy.n;have h4:=hy.d;have h7:=zA4 x.den;have h8:=zA4 y.den;have cux:=s100 x.den (by omega);have cuy:=s100 y.den (by omega);have cx:=s99 x.num (fR y.den) (by omega) (by omega);have cy:=s99 y.num (fR x.den) (by omega) (by omega);have hxl:=gB x.num (fR y.den);have hyl:=gB y.num (fR x.den);rw[rJ] at cx cy hxl hyl;have ca:=s101 ⟨x.neg,zD (val x.num*y.d)⟩ ⟨y.neg,zD (val y.num*x.d)⟩ (show (zD (val x.num*y.d)).length<_ by omega) (show (zD (val y.num*x.d)).length<_ by omega);have e1:Z.v ⟨x.neg,zD (val x.num*y.d)⟩=x.n*(y.d:Int):=by unfold Z.v R.n;rw[zK,mO]
 have e2:Z.v ⟨y.neg,zD (val y.num*x.d)⟩=y.n*(x.d:Int):=by unfold Z.v R.n;rw[zK,mO]
 rw[e1,e2] at ca;have cm:=s99 (fR x.den) (fR y.den) (by omega) (by omega);have hml:=gB (fR x.den) (fR y.den);rw[rJ,rJ] at cm hml;have hsl:(xH (x.n*(y.d:Int)+y.n*(x.d:Int))).mag.length<2^33:=by have a1:=xE (zD (val x.num*y.d));have a2:=xE (zD (val y.num*x.d));rw[zK] at a1 a2;obtain⟨k,hk⟩:∃ k,k=4294967297:=⟨_,rfl⟩;have b1:=Nat.lt_of_lt_of_le a1 (Nat.pow_le_pow_right xN (show (zD (val x.num*y.d)).length<=k by omega));have b2:=Nat.lt_of_lt_of_le a2 (Nat.pow_le_pow_right xN (show (zD (val y.num*x.d)).length<=k by omega));have e3:=Int.natAbs_add_le (x.n*(y.d:Int)) (y.n*(x.d:Int));rw[Int.natAbs_mul,Int.natAbs_mul,R.n,R.n,vC,vC,Int.natAbs_natCast,Int.natAbs_natCast] at e3;have e4:B^k*2<=B^k*B:=Nat.mul_le_mul_left _ (by decide);have e5:(zD (x.n*(y.d:Int)+y.n*(x.d:Int)).natAbs).length<=k+1:=z4 (by rw[Nat.pow_succ B k];unfold R.n;generalize B^k=P at *;omega);show (zD (x.n*(y.d:Int)+y.n*(x.d:Int)).natAbs).length<2^33;omega
 have cq:=s102 (xH (x.n*(y.d:Int)+y.n*(x.d:Int))).neg (xH (x.n*(y.d:Int)+y.n*(x.d:Int))).mag (zD (x.d*y.d)) hsl (by omega) (by rw[zK];exact Nat.mul_ne_zero x.d_ne y.d_ne);have e6:sgn (xH (x.n*(y.d:Int)+y.n*(x.d:Int))).neg (val (xH (x.n*(y.d:Int)+y.n*(x.d:Int))).mag)=x.n*(y.d:Int)+y.n*(x.d:Int):=k9 _;rw[e6,zK,<-zKD] at cq;clear e6 hsl hml e1 e2 hxl hyl;generalize zS (x.q+y.q)=W at *
 generalize zD (x.d*y.d)=M at *
 generalize xH (x.n*(y.d:Int)+y.n*(x.d:Int))=S at *
 generalize zD (val x.num*y.d)=W1 at *
 generalize zD (val y.num*x.d)=W2 at *
 generalize fR x.den=ux at *
 generalize fR y.den=uy at *
 obtain⟨a,b,c⟩:=x;obtain⟨a',b',c'⟩:=y;obtain⟨s1,s2⟩:=S;cbv;refine zBE 10 (by cbv) (by cbv) ?_;cbv;refine dA cuy ?_;cbv;refine dA cx ?_;cbv;refine zBE 10 (by cbv) (by cbv) ?_;cbv;refine dA cux ?_;cbv;refine dA cy ?_;cbv;refine cA ca ?_;cbv;refine zZ 12 (by cbv) ?_;cbv;refine dA cux ?_;cbv;refine dA cuy ?_;cbv;refine dA cm ?_;cbv;refine dA cq ?_;cbv
 (refine rC ?_;cbv)
 exact okA
theorem s93 (x y:R)(hx:x.sz (2^31))(hy:y.sz (2^31)):zM 73 [rv x,rv y] (rv (zS (x.q-y.q))):=by
 refine sF Tryz.f73 ?_;have cn:=s143 y (hy.mono (by omega));have ca:=s44 x (zS (-y.q)) hx (yZ (bX (hy.fits (by decide))));rw[xF,<-Rat.sub_eq_add_neg] at ca;generalize zS (x.q-y.q)=W at *
 generalize zS (-y.q)=V at *
 obtain⟨a,b,c⟩:=x;obtain⟨a',b',c'⟩:=y;cbv;refine zZ 4 (by cbv) ?_;cbv;refine dA cn ?_;cbv;refine dA ca ?_;cbv
 (refine rC ?_;cbv)
 exact okA
theorem zLP (a b:Rat):xJ (a-b)=fS a b:=by
 unfold xJ fS;have h1:a-b<0↔a<b:=by grind
 have h2:0<a-b↔b<a:=by grind
 simp only[h1,h2]
theorem s42 (x y:R)(hx:x.sz (2^31))(hy:y.sz (2^31)):zM 30 [rv x,rv y] (.int .i64 (fun _=>fS x.q y.q)):=by
 refine sF Tryz.f30 ?_;have ca:=s93 x y hx hy;have hf:=(zIV (hx.fits (by decide)) (hy.fits (by decide))).lnum;have cs:=s35 (zS (x.q-y.q)) (Nat.lt_of_le_of_lt hf (by omega));rw[xF,zLP] at cs;clear hf;generalize fS x.q y.q=C at *
 generalize zS (x.q-y.q)=W at *
 cbv;refine cA ca ?_;cbv;refine cA cs ?_;cbv
 (refine rC ?_;cbv)
 exact lR
def enc {α:Type} (p:α->List PV) (l:List α):List (List D):=l.map fun a=>xM (p a)
section
variable {α:Type} {p:α->List PV}
theorem zO (p:α->List PV)(l:List α):(enc p l).length=l.length:=by simp[enc]
theorem nP {n:Nat}(hn:∀ a,(p a).length=n)(l:List α):Wid n (fun _=>enc p l):=⟨fun e he=>by simp only[enc,List.mem_map] at he;obtain⟨x,_,rfl⟩:=he;rw[vV,hn]⟩
theorem jP (p:α->List PV)(l m:List α):enc p l++enc p m=enc p (l++m):=by simp[enc]
theorem zDF (p:α->List PV)(l:List α)(n:Nat):(enc p l).take n=enc p (l.take n):=by simp[enc,List.map_take]
theorem zDG (p:α->List PV)(l:List α)(n:Nat):(enc p l).drop n=enc p (l.drop n):=by simp[enc,List.map_drop]
theorem zF9 (p:α->List PV)(l:List α)(n:Nat)(a:α):(enc p l).set n (xM (p a))=enc p (l.set n a):=by simp[enc,List.map_set]
theorem pO {n:Nat}{l:List α}{k:Int}{K:List PV->Prop}(j:Nat)(hk:k=(j:Int))(hj:j<l.length)(hf:∀ a,yN kQ (p a)=true)(hn:∀ a,(p a).length=n) (hK:∀ a,l[j]?=some a->K (p a)):IdxOk n (fun _=>enc p l) (fun _=>k) K :=
 zJX j hk (p l[j]) (hf _) (hn _) (by simp[enc,hj]) (hK _ (by simp[hj]))
end
structure A where
 ts:List (Int×R)
 c:R
structure F where
 ts:List (Int×Rat)
 c:Rat
def tq (l:List (Int×R)):List (Int×Rat):=l.map fun t=>(t.1,t.2.q)
def tR (l:List (Int×Rat)):List (Int×R):=l.map fun t=>(t.1,zS t.2)
def A.f (a:A):F:=⟨tq a.ts,a.c.q⟩
def fA (f:F):A:=⟨tR f.ts,zS f.c⟩
theorem zOO (l:List (Int×Rat)):tq (tR l)=l:=by simp[tq,tR,xF,Function.comp_def]
def rc (x:R):List PV:=[.bool (fun _=>x.neg),nat x.num,nat x.den]
def tc (t:Int×R):List PV:=[.int .i64 (fun _=>t.1),.bool (fun _=>t.2.neg),nat t.2.num,nat t.2.den]
abbrev tsv (l:List (Int×R)):PV:=.sl (fun _=>enc tc l)
def ac (f:A):List PV:=[tsv f.ts,.bool (fun _=>f.c.neg),nat f.c.num,nat f.c.den]
abbrev av (f:A):PV:=.agg [tsv f.ts,.bool (fun _=>f.c.neg),nat f.c.num,nat f.c.den]
abbrev fv (f:F):PV:=av (fA f)
theorem jL (a:Int×R):yN kQ (tc a)=true:=rfl
theorem gP (a:Int×R):(tc a).length=4:=rfl
theorem aX (a:A):yN kQ (ac a)=true:=rfl
theorem mK (a:A):(ac a).length=4:=rfl
structure Tsz (k:Nat) (l:List (Int×R)):Prop where
 len:l.length<2^38
 sz:∀ t,t∈l->t.2.sz k
structure A.sz (a:A) (k:Nat):Prop where
 t:Tsz k a.ts
 c:a.c.sz k
theorem Tsz.mono {k m:Nat}{l}(h:Tsz k l)(hm:k<=m):Tsz m l:=⟨h.len,fun t ht=>(h.sz t ht).mono hm⟩
theorem A.sz.mono {k m:Nat}{a:A}(h:a.sz k)(hm:k<=m):a.sz m:=⟨h.t.mono hm,h.c.mono hm⟩
structure Tfit (k:Nat) (l:List (Int×Rat)):Prop where
 len:l.length<2^38
 fit:∀ t,t∈l->Fits k t.2
structure F.fit (f:F) (k:Nat):Prop where
 t:Tfit k f.ts
 c:Fits k f.c
theorem Tfit.tR {k:Nat}{l}(h:Tfit k l):Tsz k (tR l):=⟨by simpa[Go.Proofs.YtfainocfaddbdaaGreat.tR] using h.len,fun t ht=>by simp only[Go.Proofs.YtfainocfaddbdaaGreat.tR,List.mem_map] at ht;obtain⟨u,hu,rfl⟩:=ht;exact yZ (h.fit u hu)⟩
theorem F.fit.fA {k:Nat}{f:F}(h:f.fit k):(fA f).sz k:=⟨h.t.tR,yZ h.c⟩
def vT (vars:Int):Int->List (Int×R)->Bool
 |_,[]=>true| p,t::r=>decide (0<=t.1)&&decide (t.1<vars)&&decide (p<t.1)&&decide (t.2.q≠0)&&t.2.ok&&vT vars t.1 r
def A.valid (vars:Int) (a:A):Bool:=vT vars (-1) a.ts&&a.c.ok
structure Cn (l:List (Int×Rat)):Prop where
 s:l.Pairwise (fun a b=>a.1<b.1)
 n:∀ t,t∈l->t.2≠0
theorem Cn.nil:Cn []:=⟨.nil,by simp⟩
theorem Cn.tail {t l}(h:Cn (t::l)):Cn l:=⟨(List.pairwise_cons.1 h.s).2,fun u hu=>h.n u (List.mem_cons_of_mem _ hu)⟩
theorem Cn.lt {t l}(h:Cn (t::l)):∀ u,u∈l->t.1<u.1:=(List.pairwise_cons.1 h.s).1
theorem Cn.hd {t l}(h:Cn (t::l)):t.2≠0:=h.n t List.mem_cons_self
theorem Cn.cons {t l}(h:Cn l)(h1:∀ u,u∈l->t.1<u.1)(h2:t.2≠0):Cn (t::l) :=
 ⟨List.pairwise_cons.2 ⟨h1,h.s⟩,fun u hu=>by rcases List.mem_cons.1 hu with rfl|hu <;> first|exact h2|exact h.n u hu⟩
def co:List (Int×Rat)->Int->Rat
 |[],_=>0| t::r,v=>(if t.1=v then t.2 else 0)+co r v
def pc (v:Int) (q:Rat) (r:List (Int×Rat)):List (Int×Rat):=if q=0 then r else (v,q)::r
def mrg (c:Rat):List (Int×Rat)->List (Int×Rat)->List (Int×Rat)
 |[],[]=>[]| a::aa,[]=>pc a.1 a.2 (mrg c aa [])| [],b::bb=>pc b.1 (b.2*c) (mrg c [] bb)| a::aa,b::bb=>if a.1<b.1 then pc a.1 a.2 (mrg c aa (b::bb)) else if b.1<a.1 then pc b.1 (b.2*c) (mrg c (a::aa) bb) else pc a.1 (a.2+b.2*c) (mrg c aa bb)
termination_by a b=>a.length+b.length
theorem lV (v:Int)(q:Rat)(r):(pc v q r).length<=r.length+1:=by unfold pc;split <;> simp
def F.merge (f g:F) (c:Rat):F:=⟨mrg c f.ts g.ts,f.c+g.c*c⟩
def F.sub (f g:F):F:=f.merge g (-1)
theorem okQ {p:Prop}(h:p:=by (try simp only[zO,zG] at *) <;> (try dsimp only [zJ] at *) <;> omega):p:=h
theorem vW {α:Type}{l:List α}{i:Nat}{t:α}(h:l[i]?=some t):l.drop i=t::l.drop (i+1):=by obtain⟨h1,h2⟩:=List.getElem?_eq_some_iff.1 h;rw[<-h2,List.drop_eq_getElem_cons h1]
theorem nD (vars p:Int)(t r):vT vars p (t::r)=(decide (0<=t.1)&&decide (t.1<vars)&&decide (p<t.1)&&decide (t.2.q≠0)&&t.2.ok&&vT vars t.1 r):=rfl
theorem sgnQ_ne {q:Rat}:xJ q≠0↔q≠0:=by unfold xJ;split <;> (try split) <;> grind
theorem gU (a:A)(vars:Int)(ha:a.sz (2^36)):zM 80 [av a,.int .i64 (fun _=>vars)] (.bool (fun _=>a.valid vars)):=by
 refine sF Tryz.f80 ?_;obtain⟨ts,c⟩:=a;have hl:=ha.t.len;have hts:=ha.t.sz;have cc:=s103 c ha.c;generalize hr:A.valid vars ⟨ts,c⟩=r;have hr0:r=(vT vars (-1) ts&&c.ok):=hr.symm;simp only at hl hts cc;generalize c.ok=co at *
 clear hr ha;cbv;refine yB (σ:=Nat×Int) (fun s=>⟨[(1,.int .i64 (fun _=>vars)),(2,.ptr 2 0),(8,tsv ts),(9,.int .i64 (fun _=>(ts.length:Int))),(10,.int .i64 (fun _=>(s.1:Int)))],[(2,.box [tsv ts,.bool (fun _=>c.neg),nat c.num,nat c.den])]⟩)
  (fun s=>s.1<=ts.length/\r=(vT vars s.2 (ts.drop s.1)&&co)/\(s.1=0->s.2=-1)/\(s.1≠0->∃ u,ts[s.1-1]?=some u/\u.1=s.2)) (fun s=>ts.length-s.1)
  (0,-1) ⟨om,hr0,fun _=>rfl,fun h=>absurd rfl h⟩ (.le ?_ ?_ rfl) ?_
 {cbv;exact⟨lR,lR,lR,zC (by (try dsimp only [zJ] at *);rw[zO]),lR,trivial⟩};{cbv;exact okA};intro s hs;obtain⟨h1,hv,h3,h4⟩:=hs;generalize s.1=i at *
 generalize s.2=p at *
 cbv;refine zF (fun h5=>?_) (fun h5=>?_)
 ·(cbv;refine pO (l:=ts) i om om jL gP (fun t ht=>?_);rw[vW ht,nD] at hv;have htz:=hts t (List.mem_of_getElem? ht);have cs:=s86 t.2 (by have:=htz.n;omega);have cv:=s103 t.2 htz;have hq:decide (t.2.q≠0)=decide (xJ t.2.q≠0):=by rw[decide_eq_decide];exact sgnQ_ne.symm);rw[hq] at hv
  generalize xJ t.2.q=sg at *
  generalize hok:t.2.ok=ok at *
  (obtain⟨v,x1,x2,x3⟩:=t;simp only at hv;generalize hrest:(vT vars v (ts.drop (i+1))&&co)=rest;have hv':r=(decide (0<=v)&&decide (v<vars)&&decide (p<v)&&decide (sg≠0)&&ok&&rest):=by rw[hv,<-hrest];simp only[Bool.and_assoc]);clear hv
  cbv;refine zZ 37 (by cbv) ?_;cbv;refine yG (fun e1=>?_) (fun e1=>?_)
  ·cbv
   (refine rC ?_;cbv)
   exact zL (by rw[hv',decide_eq_false (by omega)];rfl)
  cbv;refine yG (fun e2=>?_) (fun e2=>?_)
  ·cbv
   (refine rC ?_;cbv)
   exact zL (by rw[hv',decide_eq_false (p:=v<vars) (by omega)];simp)
  (cbv;have fin:(¬(p<v)->r=false):=fun h=>by rw[hv',decide_eq_false (p:=p<v) h];simp);have hmain:(p<v)->r=(decide (sg≠0)&&ok&&rest):=fun h=>by rw[hv',decide_eq_true (p:=p<v) h,decide_eq_true (p:=0<=v) (by omega),decide_eq_true (p:=v<vars) (by omega)];simp only[Bool.true_and]
  clear hv';refine yG (fun e3=>?_) (fun e3=>?_)
  ·(obtain⟨u,hu,hu2⟩:=h4 om;cbv;refine⟨zE om om,pO (l:=ts) (i-1) om om jL gP (fun u' hu'=>?_)⟩;have:u'=u:=by rw[hu] at hu';exact (Option.some.inj hu').symm);subst this
   obtain⟨w,y1,y2,y3⟩:=u';simp only at hu2;cbv;refine yG (fun e4=>?_) (fun e4=>?_)
   ·cbv
    (refine rC ?_;cbv)
    exact zL (fin (by omega))
   have hm:=hmain (by omega);cbv;refine dA cs ?_;cbv;refine yG (fun e5=>?_) (fun e5=>?_)
   ·cbv
    (refine rC ?_;cbv)
    exact zL (by rw[hm,decide_eq_false (by simpa using e5)];rfl)
   rw[decide_eq_true e5,Bool.true_and] at hm;cbv;refine dA cv ?_;cbv;refine z9 (fun e6=>?_) (fun e6=>?_);{rw[e6,Bool.true_and] at hm;cbv;exact⟨zE om om,(i+1,v),⟨om,by rw[hm,hrest],fun h=>absurd h (by simp),fun _=>⟨_,ht,rfl⟩⟩,om,.le (by cbv;exact⟨lR,lR,lR,lR,zC om,trivial⟩) (by cbv;exact okA) rfl⟩}
   ·cbv
    (refine rC ?_;cbv)
    exact zL (by rw[hm,e6];rfl)
  ·have hp:=h3 om;have hm:=hmain (by omega);cbv;refine dA cs ?_;cbv;refine yG (fun e5=>?_) (fun e5=>?_)
   ·cbv
    (refine rC ?_;cbv)
    exact zL (by rw[hm,decide_eq_false (by simpa using e5)];rfl)
   rw[decide_eq_true e5,Bool.true_and] at hm;cbv;refine dA cv ?_;cbv;refine z9 (fun e6=>?_) (fun e6=>?_);{rw[e6,Bool.true_and] at hm;cbv;exact⟨zE om om,(i+1,v),⟨om,by rw[hm,hrest],fun h=>absurd h (by simp),fun _=>⟨_,ht,rfl⟩⟩,om,.le (by cbv;exact⟨lR,lR,lR,lR,zC om,trivial⟩) (by cbv;exact okA) rfl⟩}
   ·cbv
    (refine rC ?_;cbv)
    exact zL (by rw[hm,e6];rfl)
 ·(have he:i=ts.length:=om;rw[he,List.drop_length] at hv;have hv':r=co:=by rw[hv];rfl);cbv
  refine cA cc ?_;cbv
  (refine rC ?_;cbv)
  exact zI hv'.symm
theorem zKA {rs:List ResultVar}{r:PV}{ps ps':PS}{n:Nat}{o:Obj'}(m:Nat)(hw:Wk ps ps')(h3:lv r=true)(h4:z7 ps'.objs m=some (xD (ren (fun _=>m)) o))(h5:j4 o=true) (h:match gV ps' rs with
  |some l=>les (r8 l) (ren (fun _=>m) r)| none=>False):RetOk rs r [] [(n,o)] ps:=by
 cases h1:gV ps' rs with
 |none=>rw[h1] at h;exact h.elim| some l=>rw[h1] at h;exact⟨ps',l,fun _=>m,hw,h1,fG h,h3,⟨⟨h4,h5⟩,trivial⟩,rfl,trivial⟩
theorem zL6 {rs:List ResultVar}{r:PV}{ps:PS}(ps':PS)(hw:Wk ps ps')(h3:lv r=true) (h:match gV ps' rs with
  |some l=>les (r8 l) (ren id r)| none=>False):RetOk rs r [] [] ps:=by
 cases h1:gV ps' rs with
 |none=>rw[h1] at h;exact h.elim| some l=>rw[h1] at h;exact⟨ps',l,id,hw,h1,fG h,h3,trivial,rfl,trivial⟩
theorem qE {p:Prop}[Decidable p]{A B:Unit->Prop}(h:p)(h1:A ()):Br (fun _=>decide p) A B:=yG (fun _=>h1) (fun g=>(g h).elim)
theorem zGH {p:Prop}[Decidable p]{A B:(Exit->PS->Prop)->Prop}{Q:Exit->PS->Prop}(h:p)(h1:A Q):Cut (fun _=>decide p) A B Q:=zF (fun _=>h1) (fun g=>(g h).elim)
theorem eD {p:Prop}[Decidable p]{A B:(Exit->PS->Prop)->Prop}{Q:Exit->PS->Prop}(h:¬p)(h1:B Q):Cut (fun _=>decide p) A B Q:=zF (fun g=>(h g).elim) (fun _=>h1)
def pcr (l:List (Int×Rat)) (v:Int) (q:Rat):List (Int×Rat):=if q=0 then l else l++[(v,q)]
theorem r7 (l:List (Int×Rat))(v:Int)(q:Rat)(r):pcr l v q++r=l++pc v q r:=by unfold pcr pc;split <;> simp
theorem j1 (l:List (Int×Rat)):(tR l).length=l.length:=by simp[tR]
theorem zM7 (l m:List (Int×Rat)):tR (l++m)=tR l++tR m:=by simp[tR]
theorem zE9:ty 23=.sli 4 64 [.int .i64 (fun _=>0),.ff,.nil,.nil]:=by cbv
theorem r6 (l:List (Int×Rat))(v:Int)(q:Rat):(pcr l v q).length<=l.length+1:=by unfold pcr;split <;> simp
structure Row where
 k:Int
 i:Int
 lo:Int
 hi:Int
deriving DecidableEq
structure Mult where
 row:Row
 c:R
deriving DecidableEq
structure Dec where
 k:Int
 i:Int
 x:R
structure Lem where
 u:Int
 up:Bool
 v:R
 pf:List Mult
structure Grp where
 n:Int
 us:List A
 os:List A
structure Reg where
 lo:List R
 hi:List R
 rows:List A
structure Qry where
 g:Grp
 r:Reg
 goal:A
structure Scp where
 q:Qry
 path:List Dec
 lems:List Lem
abbrev rlv (l:List R):PV:=.sl (fun _=>enc rc l)
abbrev alv (l:List A):PV:=.sl (fun _=>enc ac l)
def mc (m:Mult):List PV:=[.int .i64 (fun _=>m.row.k),.int .i64 (fun _=>m.row.i),.int .i64 (fun _=>m.row.lo),.int .i64 (fun _=>m.row.hi),.bool (fun _=>m.c.neg),nat m.c.num,nat m.c.den]
abbrev mlv (l:List Mult):PV:=.sl (fun _=>enc mc l)
def dc (d:Dec):List PV:=[.int .i64 (fun _=>d.k),.int .i64 (fun _=>d.i),.bool (fun _=>d.x.neg),nat d.x.num,nat d.x.den]
abbrev dlv (l:List Dec):PV:=.sl (fun _=>enc dc l)
def lc (l:Lem):List PV:=[.int .i64 (fun _=>l.u),.bool (fun _=>l.up),.bool (fun _=>l.v.neg),nat l.v.num,nat l.v.den,mlv l.pf]
abbrev llv (l:List Lem):PV:=.sl (fun _=>enc lc l)
def sc (s:Scp):List PV:=[.int .i64 (fun _=>s.q.g.n),alv s.q.g.us,alv s.q.g.os,rlv s.q.r.lo,rlv s.q.r.hi,alv s.q.r.rows,tsv s.q.goal.ts,.bool (fun _=>s.q.goal.c.neg),nat s.q.goal.c.num,nat s.q.goal.c.den,dlv s.path,llv s.lems]
structure Asz (k:Nat) (l:List A):Prop where
 len:l.length<2^38
 sz:∀ a,a∈l->a.sz k
theorem Asz.mono {k m:Nat}{l}(h:Asz k l)(hm:k<=m):Asz m l:=⟨h.len,fun a ha=>(h.sz a ha).mono hm⟩
theorem pK:∀ a:PV,les a a
 |.agg cs=>allLe_refl1 cs| .tup cs=>allLe_refl1 cs| .fn f cs=>⟨nqb_self f,allLe_refl1 cs⟩| .int k n=>lR| .tt=>lR| .ff=>lR| .bool b=>lR| .nbool b=>lR| .str s=>lR| .nil=>lR| .sl els=>lR| .ptr n o=>lR| .aptr n s i o=>lR| .dptr cs o=>lR| .osl n s o l=>lR| .nilf=>lR| .nilp=>lR| .emp=>lR| .any=>lR
where
 les1_refl:∀ a:PV,les1 a a
  |.agg cs=>allLeS_refl cs| .tup cs=>allLeS_refl cs| .fn f cs=>lR| .int k n=>lR| .tt=>lR| .ff=>lR| .bool b=>lR| .nbool b=>lR| .str s=>lR| .nil=>lR| .sl els=>lR| .ptr n o=>lR| .aptr n s i o=>lR| .dptr cs o=>lR| .osl n s o l=>lR| .nilf=>lR| .nilp=>lR| .emp=>lR| .any=>lR
 allLeS_refl:∀ l:List PV,kP LeS l l
  |[]=>trivial| a::r=>⟨bU a,allLeS_refl r⟩
 allLe_refl1:∀ l:List PV,kP les1 l l
  |[]=>trivial| a::r=>⟨les1_refl a,allLe_refl1 r⟩
theorem zAB:∀ l:List PV,kP les l l
 |[]=>trivial| a::r=>⟨pK a,zAB r⟩
def selT (T:List (Nat×PV)):List Nat->List (Nat×PV)
 |[]=>[]| t::r=>(t,zB T t)::selT T r
def selO (O:List (Nat×Obj')):List Nat->List (Nat×Obj')
 |[]=>[]
 |n::r=>(match z7 O n with
  |some o=>(n,o)::selO O r| none=>selO O r)
def ndN:List Nat->Bool
 |[]=>true| n::r=>!(zY n r)&&ndN r
theorem zC6:∀ (hs:List (PV×(Unit->Nat))),hLe hs hs
 |[]=>trivial| (v,k)::r=>⟨⟨lR,lR⟩,zC6 r⟩
theorem zD5:∀ o:Obj',eT o o
 |.mat s r hs=>⟨nqb_self s,⟨rfl⟩,zC6 hs⟩| .box cs=>zAB cs| .arr s e=>⟨nqb_self s,⟨rfl⟩⟩| .log s e=>⟨nqb_self s,⟨rfl⟩⟩| .lent s e=>⟨nqb_self s,⟨rfl⟩⟩
theorem zF1 (T:List (Nat×PV)):∀ L,leT T (selT T L)
 |[]=>trivial| t::r=>⟨pK _,zF1 T r⟩
theorem zBA (O:List (Nat×Obj')):∀ M,leO O (selO O M)
 |[]=>trivial| n::r=>by
  unfold selO;cases h:z7 O n with
  |none=>exact zBA O r| some o =>
   refine⟨?_,zBA O r⟩;rw[h];exact zD5 o
theorem iP (O:List (Nat×Obj'))(m:Nat):∀ M,zY m M=false->hasN m (selO O M)=false
 |[],_=>rfl| n::r,h=>by
  simp only[zY,Bool.or_eq_false_iff] at h;unfold selO;cases z7 O n with
  |none=>exact iP O m r h.2| some o =>
   simp only[hasN,Bool.or_eq_false_iff];refine⟨?_,iP O m r h.2⟩;have:=h.1;cases hx:nqb n m with
   |false=>rfl| true=>rw[yC hx,nqb_self] at this;cases this
theorem zA7 (O:List (Nat×Obj')):∀ M,ndN M=true->ndO (selO O M)=true
 |[],_=>rfl| n::r,h=>by
  simp only[ndN,Bool.and_eq_true,Bool.not_eq_true'] at h;unfold selO;cases z7 O n with
  |none=>exact zA7 O r h.2| some o =>
   simp only[ndO,Bool.and_eq_true,Bool.not_eq_true'];exact⟨iP O n r h.1,zA7 O r h.2⟩
theorem Wk.sel (ps:PS)(L M:List Nat)(h:ndN M=true):Wk ps ⟨selT ps.tmps L,selO ps.objs M⟩:=.le (zF1 _ _) (zBA _ _) (zA7 _ _ h)

theorem dY {α:Type}{l:List α}{i:Nat}(h:i<l.length):∃ a,l[i]?=some a:=⟨l[i],by simp[h]⟩


end Go.Proofs.YtfainocfaddbdaaGreat
