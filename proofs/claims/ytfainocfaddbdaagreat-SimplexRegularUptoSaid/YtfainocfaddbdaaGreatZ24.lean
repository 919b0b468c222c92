/- A part of the proof: ReF, ReG, ReH, AfA, LnA, LnB, DtA, HfA, VaA, RwA, RwB, UtA. -/
import Derived.Test.YtfainocfaddbdaaGreatZ23
set_option linter.all false
namespace Go.Proofs.YtfainocfaddbdaaGreat
open Go
set_option maxRecDepth 100000
set_option maxHeartbeats 1000000
def jE (d:List UInt32):List UInt32:=zE (if val d=0 then 1 else val d)
theorem cN (x:R):val (jE x.den)=x.d:=by unfold jE R.d;rw[zM]
theorem pV (d:List UInt32):(jE d).length<=d.length+1:=by unfold jE;split;{rw[mR];simp};{have:=zU d;omega}
theorem s100 (d:List UInt32)(hd:d.length<2^40):zH 71 [nat d] (nat (jE d)):=by
 refine sF Tryz.f71 ?_;have c1:=rK d (by omega);have e1:(zE (val d)).length=0->jE d=[1]:=fun h=>by unfold jE;rw[if_pos (xJ.1 (List.eq_nil_of_length_eq_zero h)),mR]
 have e2:(zE (val d)).length≠0->jE d=zE (val d):=fun h=>by unfold jE;rw[if_neg (fun e=>h (by rw[e,z6];rfl))]
 generalize jE d=u at *
 generalize zE (val d)=p at *
 cbv;refine cA c1 ?_;cbv;refine zF (fun h=>?_) (fun h=>?_)
 ·have:=e1 om;subst this;cbv
  (refine rC ?_;cbv)
  exact zX rfl
 ·have:=e2 (by (try dsimp only [zJ] at *);rw[zG] at h;omega);subst this;cbv
  (refine rC ?_;cbv)
  exact lR
theorem s102 (neg:Bool)(num den:List UInt32)(hn:num.length<2^33)(hd:den.length<2^33)(h0:val den≠0):zH 69 [.bool (fun _=>neg),nat num,nat den] (rv (zL (mkRat (sgn neg (val num)) (val den)))):=by
 refine sF Tryz.f69 ?_;rw[mB h0];have hg0:Nat.gcd (val num) (val den)≠0:=fun e=>h0 (Nat.eq_zero_of_gcd_eq_zero_right e);have hgl:(zE (Nat.gcd (val num) (val den))).length<2^33:=Nat.lt_of_le_of_lt (Nat.le_trans (vY (Nat.le_of_dvd (Nat.pos_of_ne_zero h0) (Nat.gcd_dvd_right _ _))) (zU den)) hd;have cg:=s158 num den (by omega) (by omega);have cn:=s159 num (zE (Nat.gcd (val num) (val den))) (by omega) (by omega) (by rw[zM];exact hg0);have cd:=s159 den (zE (Nat.gcd (val num) (val den))) (by omega) (by omega) (by rw[zM];exact hg0);rw[zM] at cn cd;have hnz:val num/Nat.gcd (val num) (val den)=0↔val num=0:=by rw[Nat.div_eq_zero_iff_lt (Nat.pos_of_ne_zero hg0)];constructor;{intro h;rcases Nat.eq_zero_or_pos (val num) with e|e;{exact e};{have:=Nat.gcd_le_left (val den) e;omega}};{intro h;omega}
 have hdl:(zE (val den/Nat.gcd (val num) (val den))).length<2^33:=Nat.lt_of_le_of_lt (Nat.le_trans (vY (Nat.div_le_self _ _)) (zU den)) hd;generalize val den/Nat.gcd (val num) (val den)=D' at *
 generalize val num/Nat.gcd (val num) (val den)=N' at *
 generalize Nat.gcd (val num) (val den)=g at *
 generalize val num=N at *
 show wp _ _ (mC _ (.agg [.bool (fun _=>neg&&decide (N≠0)),nat (zE N'),nat (if D'=1 then [] else zE D')]) [] []);have hN0:decide (N≠0)=decide (0<(zE N').length):=by rw[decide_eq_decide,List.length_pos_iff,ne_eq,ne_eq,xJ,hnz]
 rw[hN0];have hone:=@kZ D';generalize hr2:(if D'=1 then [] else zE D')=r2;have hr2a:zE D'=[1]->r2=[]:=fun h=>by rw[<-hr2,if_pos (hone.1 h)]
 have hr2b:zE D'≠[1]->r2=zE D':=fun h=>by rw[<-hr2,if_neg (fun e=>h (hone.2 e))]
 generalize zE D'=dl at *
 generalize zE N'=nl at *
 clear hr2 hone hN0 hnz;cbv;refine cA cg ?_;cbv;refine cA cn ?_;cbv;refine cA cd ?_;cbv;have one_of:∀ (h1:dl.length=1),((dl.getD 0 0).toNat:Int)=1↔dl=[1]:=by
  intro h1
  match dl,h1 with
  |[x],_ =>
   have e1:[x].getD 0 0=x:=rfl;rw[e1];constructor;{intro h2;have:x=1:=UInt32.toNat_inj.1 (by show x.toNat=1;omega);rw[this]};{intro h2;rw[List.cons.inj h2 |>.1];rfl}
 refine yO (fun h=>?_) (fun h=>?_)
 ·have h1:dl.length=1:=om;have ho:=one_of h1;cbv;refine y6 0 rfl (by omega) ?_;cbv;refine zF (fun h2=>?_) (fun h2=>?_)
  ·have h3:=hr2a (ho.1 h2);cbv;refine x7 (fun h4=>?_) (fun h4=>?_)
   ·subst h4;cbv
    (refine rC ?_;cbv)
    exact⟨zK (by simp[zG]),lR,zO (by rw[h3];rfl),trivial⟩
   ·subst h4;cbv
    (refine rC ?_;cbv)
    exact⟨zQ rfl,lR,zO (by rw[h3];rfl),trivial⟩
  ·have h3:=hr2b (fun e=>h2 (ho.2 e));cbv;refine x7 (fun h4=>?_) (fun h4=>?_)
   ·subst h4;cbv
    (refine rC ?_;cbv)
    exact⟨zK (by simp[zG]),lR,zX (by rw[h3]),trivial⟩
   ·subst h4;cbv
    (refine rC ?_;cbv)
    exact⟨zQ rfl,lR,zX (by rw[h3]),trivial⟩
 ·have h3:=hr2b (fun e=>h (by rw[e];rfl));cbv;refine x7 (fun h4=>?_) (fun h4=>?_)
  ·subst h4;cbv
   (refine rC ?_;cbv)
   exact⟨zK (by simp[zG]),lR,zX (by rw[h3]),trivial⟩
  ·subst h4;cbv
   (refine rC ?_;cbv)
   exact⟨zQ rfl,lR,zX (by rw[h3]),trivial⟩
theorem s47 (x:R)(hx:x.sz (2^32)):zH 110 [rv x] (rv (zL x.q)):=by
 refine sF Tryz.f110 ?_;have h1:=hx.n;have h2:=hx.d;have h3:=pV x.den;have cu:=s100 x.den (by omega);have cq:=s102 x.neg x.num (jE x.den) (by omega) (by omega) (by rw[cN];exact x.d_ne);rw[cN] at cq;have e:mkRat (sgn x.neg (val x.num)) x.d=x.q:=rfl;rw[e] at cq;generalize zL x.q=W at *
 generalize jE x.den=u at *
 obtain⟨neg,num,den⟩:=x;cbv;refine zZ 8 (by cbv) ?_;cbv;refine dA cu ?_;cbv;refine dA cq ?_;cbv
 (refine rC ?_;cbv)
 exact okA
theorem s35 (x:R)(hx:x.num.length<2^40):zH 31 [rv x] (.int .i64 (fun _=>yX x.q)):=by
 refine sF Tryz.f31 ?_;have c2:=s90 ⟨x.neg,x.num⟩ hx;have e:Z.v ⟨x.neg,x.num⟩=x.n:=rfl;rw[e,<-zKW] at c2;generalize yX x.q=s at *
 obtain⟨neg,num,den⟩:=x;cbv;refine cA c2 ?_;cbv
 (refine rC ?_;cbv)
 exact lR
theorem s143 (x:R)(hx:x.sz (2^32)):zH 122 [rv x] (rv (zL (-x.q))):=by
 refine sF Tryz.f122 ?_;have ca:=s47 ⟨!x.neg,x.num,x.den⟩ ⟨hx.n,hx.d⟩;rw[zL1] at ca;generalize zL (-x.q)=W at *
 obtain⟨a,b,c⟩:=x;generalize hna:(!a)=na at *
 cbv;refine wD rfl (by exact⟨⟨kQ hna.symm,lR,lR,trivial⟩,trivial⟩) ca rfl ?_;cbv
 (refine rC ?_;cbv)
 exact okA
theorem s77 (x y:R)(hx:x.sz (2^31))(hy:y.sz (2^31)):zH 28 [rv x,rv y] (rv (zL (x.q*y.q))):=by
 refine sF Tryz.f28 ?_;have h1:=hx.n;have h2:=hx.d;have h3:=hy.n;have h4:=hy.d;have h7:=pV x.den;have h8:=pV y.den;have cux:=s100 x.den (by omega);have cuy:=s100 y.den (by omega);have cm:=s99 (jE x.den) (jE y.den) (by omega) (by omega);have hml:=k7 (jE x.den) (jE y.den);rw[cN,cN] at cm hml;have cn:=s99 x.num y.num (by omega) (by omega);have hnl:=k7 x.num y.num;have cq:=s102 (x.neg != y.neg) (zE (val x.num*val y.num)) (zE (x.d*y.d)) (by omega) (by omega) (by rw[zM];exact Nat.mul_ne_zero x.d_ne y.d_ne);rw[zM,zM,<-zBH] at cq;have e:mkRat (sgn x.neg (val x.num)*sgn y.neg (val y.num)) (x.d*y.d)=x.q*y.q:=(zOA x y).symm;rw[e] at cq;have hb:(x.neg != y.neg)=!decide (x.neg=y.neg):=by cases x.neg <;> cases y.neg <;> rfl
 clear hml hnl e;generalize zL (x.q*y.q)=W at *
 generalize zE (x.d*y.d)=M at *
 generalize zE (val x.num*val y.num)=P at *
 generalize jE x.den=ux at *
 generalize jE y.den=uy at *
 obtain⟨a,b,c⟩:=x;obtain⟨a',b',c'⟩:=y;simp only at *
 generalize (a != a')=nb at *
 cbv;refine zZ 18 (by cbv) ?_;cbv;refine dA cn ?_;cbv;refine dA cux ?_;cbv;refine dA cuy ?_;cbv;refine dA cm ?_;cbv;refine uX (by exact⟨kQ hb,lR,lR,trivial⟩) cq rfl ?_;cbv
 (refine rC ?_;cbv)
 exact okA
theorem s69 (x y:R)(hx:x.sz (2^32))(hy:y.sz (2^32)):zH 109 [rv x,rv y] (.bool (fun _=>decide (x=y))):=by
 refine sF Tryz.f109 ?_;have h1:=hx.n;have h2:=hx.d;have h3:=hy.n;have h4:=hy.d;have c1:=s130 x.num y.num (by omega) (by omega);have c2:=s130 x.den y.den (by omega) (by omega);obtain⟨a,b,c⟩:=x;obtain⟨a',b',c'⟩:=y;have hO:(decide ((⟨a,b,c⟩:R)=⟨a',b',c'⟩))=(decide (a=a')&&(decide (b=b')&&decide (c=c'))):=by rw[Bool.eq_iff_iff];simp only[decide_eq_true_eq,R.mk.injEq,Bool.and_eq_true]
 rw[hO];simp only at c1 c2;generalize decide (b=b')=d1 at *
 generalize decide (c=c')=d2 at *
 clear hO h1 h2 h3 h4 hx hy;generalize hr:(decide (a=a')&&(d1&&d2))=r;cbv;refine yO (fun h=>?_) (fun h=>?_)
 ·rw[show decide (a=a')=true from decide_eq_true h,Bool.true_and] at hr;cbv;refine cA c1 ?_;cbv;refine x7 (fun h'=>?_) (fun h'=>?_)
  ·subst h';cbv;refine cA c2 ?_;cbv
   (refine rC ?_;cbv)
   exact zK (by rw[<-hr];rfl)
  ·subst h';cbv
   (refine rC ?_;cbv)
   exact zQ (by rw[<-hr];rfl)
 ·rw[show decide (a=a')=false from decide_eq_false h,Bool.false_and] at hr;cbv
  (refine rC ?_;cbv)
  exact zQ hr.symm
theorem s129 (x:R)(hx:x.sz (2^32)):zH 62 [rv x] (.bool (fun _=>x.ok)):=by
 refine sF Tryz.f62 ?_;have cc:=s47 x hx;have cs:=s69 x (zL x.q) hx (yD (hx.fits (by decide)));have e:decide (x=zL x.q)=x.ok:=rfl;rw[e] at cs;generalize x.ok=o at *
 generalize zL x.q=W at *
 obtain⟨a,b,c⟩:=x;obtain⟨a',b',c'⟩:=W;cbv;refine zZ 4 (by cbv) ?_;cbv;refine dA cc ?_;cbv;refine dA cs ?_;cbv
 (refine rC ?_;cbv)
 exact lR
theorem zJV (z:Int):zL (z:Rat)=⟨(xM z).neg,(xM z).mag,[]⟩:=by unfold zL xM;simp only[Rat.num_intCast,Rat.den_intCast,if_true];congr
theorem s32 (x:Int)(h1:-9223372036854775808<=x)(h2:x<9223372036854775808):zH 26 [.int .i64 (fun _=>x)] (rv (zL (x:Rat))):=by
 refine sF Tryz.f26 ?_;have c1:=s88 x h1 h2;rw[zJV];generalize xM x=y at *
 obtain⟨a,b⟩:=y;cbv;refine cA c1 ?_;cbv
 (refine rC ?_;cbv)
 exact okA
theorem s44 (x y:R)(hx:x.sz (2^31))(hy:y.sz (2^31)):zH 32 [rv x,rv y] (rv (zL (x.q+y.q))):=by
 refine sF Tryz.f32 ?_;have h1:=hx.n;have h2:=hx.d;have h3:=hy.n;have h4:=hy.d;have h7:=pV x.den;have h8:=pV y.den;have cux:=s100 x.den (by omega);have cuy:=s100 y.den (by omega);have cx:=s99 x.num (jE y.den) (by omega) (by omega);have cy:=s99 y.num (jE x.den) (by omega) (by omega);have hxl:=k7 x.num (jE y.den);have hyl:=k7 y.num (jE x.den);rw[cN] at cx cy hxl hyl;have ca:=s101 ⟨x.neg,zE (val x.num*y.d)⟩ ⟨y.neg,zE (val y.num*x.d)⟩ (show (zE (val x.num*y.d)).length<_ by omega) (show (zE (val y.num*x.d)).length<_ by omega);have e1:Z.v ⟨x.neg,zE (val x.num*y.d)⟩=x.n*(y.d:Int):=by unfold Z.v R.n;rw[zM,nA]
 have e2:Z.v ⟨y.neg,zE (val y.num*x.d)⟩=y.n*(x.d:Int):=by unfold Z.v R.n;rw[zM,nA]
 rw[e1,e2] at ca;have cm:=s99 (jE x.den) (jE y.den) (by omega) (by omega);have hml:=k7 (jE x.den) (jE y.den);rw[cN,cN] at cm hml;have hsl:(xM (x.n*(y.d:Int)+y.n*(x.d:Int))).mag.length<2^33:=by have a1:=xH (zE (val x.num*y.d));have a2:=xH (zE (val y.num*x.d));rw[zM] at a1 a2;obtain⟨k,hk⟩:∃ k,k=4294967297:=⟨_,rfl⟩;have b1:=Nat.lt_of_lt_of_le a1 (Nat.pow_le_pow_right xO (show (zE (val x.num*y.d)).length<=k by omega));have b2:=Nat.lt_of_lt_of_le a2 (Nat.pow_le_pow_right xO (show (zE (val y.num*x.d)).length<=k by omega));have e3:=Int.natAbs_add_le (x.n*(y.d:Int)) (y.n*(x.d:Int));rw[Int.natAbs_mul,Int.natAbs_mul,R.n,R.n,vB,vB,Int.natAbs_natCast,Int.natAbs_natCast] at e3;have e4:B^k*2<=B^k*B:=Nat.mul_le_mul_left _ (by decide);have e5:(zE (x.n*(y.d:Int)+y.n*(x.d:Int)).natAbs).length<=k+1:=z7 (by rw[Nat.pow_succ B k];unfold R.n;generalize B^k=P at *;omega);show (zE (x.n*(y.d:Int)+y.n*(x.d:Int)).natAbs).length<2^33;omega
 have cq:=s102 (xM (x.n*(y.d:Int)+y.n*(x.d:Int))).neg (xM (x.n*(y.d:Int)+y.n*(x.d:Int))).mag (zE (x.d*y.d)) hsl (by omega) (by rw[zM];exact Nat.mul_ne_zero x.d_ne y.d_ne);have e6:sgn (xM (x.n*(y.d:Int)+y.n*(x.d:Int))).neg (val (xM (x.n*(y.d:Int)+y.n*(x.d:Int))).mag)=x.n*(y.d:Int)+y.n*(x.d:Int):=dK _;rw[e6,zM,<-zL2] at cq;clear e6 hsl hml e1 e2 hxl hyl;generalize zL (x.q+y.q)=W at *
 generalize zE (x.d*y.d)=M at *
 generalize xM (x.n*(y.d:Int)+y.n*(x.d:Int))=S at *
 generalize zE (val x.num*y.d)=W1 at *
 generalize zE (val y.num*x.d)=W2 at *
 generalize jE x.den=ux at *
 generalize jE y.den=uy at *
 obtain⟨a,b,c⟩:=x;obtain⟨a',b',c'⟩:=y;obtain⟨s1,s2⟩:=S;cbv;refine zB0 10 (by cbv) (by cbv) ?_;cbv;refine dA cuy ?_;cbv;refine dA cx ?_;cbv;refine zB0 10 (by cbv) (by cbv) ?_;cbv;refine dA cux ?_;cbv;refine dA cy ?_;cbv;refine cA ca ?_;cbv;refine zZ 12 (by cbv) ?_;cbv;refine dA cux ?_;cbv;refine dA cuy ?_;cbv;refine dA cm ?_;cbv;refine dA cq ?_;cbv
 (refine rC ?_;cbv)
 exact okA
theorem s93 (x y:R)(hx:x.sz (2^31))(hy:y.sz (2^31)):zH 73 [rv x,rv y] (rv (zL (x.q-y.q))):=by
 refine sF Tryz.f73 ?_;have cn:=s143 y (hy.mono (by omega));have ca:=s44 x (zL (-y.q)) hx (yD (cG (hy.fits (by decide))));rw[yT,<-Rat.sub_eq_add_neg] at ca;generalize zL (x.q-y.q)=W at *
 generalize zL (-y.q)=V at *
 obtain⟨a,b,c⟩:=x;obtain⟨a',b',c'⟩:=y;cbv;refine zZ 4 (by cbv) ?_;cbv;refine dA cn ?_;cbv;refine dA ca ?_;cbv
 (refine rC ?_;cbv)
 exact okA
theorem zNO (a b:Rat):yX (a-b)=f6 a b:=by
 unfold yX f6;have h1:a-b<0↔a<b:=by grind
 have h2:0<a-b↔b<a:=by grind
 simp only[h1,h2]
theorem s42 (x y:R)(hx:x.sz (2^31))(hy:y.sz (2^31)):zH 30 [rv x,rv y] (.int .i64 (fun _=>f6 x.q y.q)):=by
 refine sF Tryz.f30 ?_;have ca:=s93 x y hx hy;have hf:=(zJ7 (hx.fits (by decide)) (hy.fits (by decide))).lnum;have cs:=s35 (zL (x.q-y.q)) (Nat.lt_of_le_of_lt hf (by omega));rw[yT,zNO] at cs;clear hf;generalize f6 x.q y.q=C at *
 generalize zL (x.q-y.q)=W at *
 cbv;refine cA ca ?_;cbv;refine cA cs ?_;cbv
 (refine rC ?_;cbv)
 exact lR
def enc {α:Type} (p:α->List PV) (l:List α):List (List D):=l.map fun a=>x4 (p a)
section
variable {α:Type} {p:α->List PV}
theorem zN (p:α->List PV)(l:List α):(enc p l).length=l.length:=by simp[enc]
theorem zNK {n:Nat}(hn:∀ a,(p a).length=n)(l:List α):Wid n (fun _=>enc p l):=⟨fun e he=>by simp only[enc,List.mem_map] at he;obtain⟨x,_,rfl⟩:=he;rw[kM,hn]⟩
theorem bA (p:α->List PV)(l m:List α):enc p l++enc p m=enc p (l++m):=by simp[enc]
theorem zEA (p:α->List PV)(l:List α)(n:Nat):(enc p l).take n=enc p (l.take n):=by simp[enc,List.map_take]
theorem zEB (p:α->List PV)(l:List α)(n:Nat):(enc p l).drop n=enc p (l.drop n):=by simp[enc,List.map_drop]
theorem zHF (p:α->List PV)(l:List α)(n:Nat)(a:α):(enc p l).set n (x4 (p a))=enc p (l.set n a):=by simp[enc,List.map_set]
theorem c7 {n:Nat}{l:List α}{k:Int}{K:List PV->Prop}(j:Nat)(hk:k=(j:Int))(hj:j<l.length)(hf:∀ a,yP k8 (p a)=true)(hn:∀ a,(p a).length=n) (hK:∀ a,l[j]?=some a->K (p a)):IdxOk n (fun _=>enc p l) (fun _=>k) K :=
 zLD j hk (p l[j]) (hf _) (hn _) (by simp[enc,hj]) (hK _ (by simp[hj]))
end
structure A where
 ts:List (Int×R)
 c:R
structure F where
 ts:List (Int×Rat)
 c:Rat
theorem F.ext' {f g:F}(h1:f.ts=g.ts)(h2:f.c=g.c):f=g:=by cases f;cases g;simp_all
def tq (l:List (Int×R)):List (Int×Rat):=l.map fun t=>(t.1,t.2.q)
def tR (l:List (Int×Rat)):List (Int×R):=l.map fun t=>(t.1,zL t.2)
def A.f (a:A):F:=⟨tq a.ts,a.c.q⟩
def fA (f:F):A:=⟨tR f.ts,zL f.c⟩
theorem zFO (l:List (Int×Rat)):tq (tR l)=l:=by simp[tq,tR,yT,Function.comp_def]
theorem f_fA (f:F):(fA f).f=f:=by simp[A.f,fA,zFO,yT]
def rc (x:R):List PV:=[.bool (fun _=>x.neg),nat x.num,nat x.den]
def tc (t:Int×R):List PV:=[.int .i64 (fun _=>t.1),.bool (fun _=>t.2.neg),nat t.2.num,nat t.2.den]
abbrev tsv (l:List (Int×R)):PV:=.sl (fun _=>enc tc l)
def ac (f:A):List PV:=[tsv f.ts,.bool (fun _=>f.c.neg),nat f.c.num,nat f.c.den]
abbrev av (f:A):PV:=.agg [tsv f.ts,.bool (fun _=>f.c.neg),nat f.c.num,nat f.c.den]
abbrev fv (f:F):PV:=av (fA f)
theorem pR (a:R):yP k8 (rc a)=true:=rfl
theorem iM (a:R):(rc a).length=3:=rfl
theorem qJ (a:Int×R):yP k8 (tc a)=true:=rfl
theorem jI (a:Int×R):(tc a).length=4:=rfl
theorem sN (a:A):yP k8 (ac a)=true:=rfl
theorem m6 (a:A):(ac a).length=4:=rfl
structure Tsz (k:Nat) (l:List (Int×R)):Prop where
 len:l.length<2^38
 sz:∀ t,t∈l->t.2.sz k
structure A.sz (a:A) (k:Nat):Prop where
 t:Tsz k a.ts
 c:a.c.sz k
theorem Tsz.mono {k m:Nat}{l}(h:Tsz k l)(hm:k<=m):Tsz m l:=⟨h.len,fun t ht=>(h.sz t ht).mono hm⟩
theorem A.sz.mono {k m:Nat}{a:A}(h:a.sz k)(hm:k<=m):a.sz m:=⟨h.t.mono hm,h.c.mono hm⟩
structure Tfit (k:Nat) (l:List (Int×Rat)):Prop where
 len:l.length<2^38
 fit:∀ t,t∈l->Fits k t.2
structure F.fit (f:F) (k:Nat):Prop where
 t:Tfit k f.ts
 c:Fits k f.c
theorem Tfit.mono {k m:Nat}{l}(h:Tfit k l)(hm:k<=m):Tfit m l:=⟨h.len,fun t ht=>(h.fit t ht).mono hm⟩
theorem F.fit.mono {k m:Nat}{a:F}(h:a.fit k)(hm:k<=m):a.fit m:=⟨h.t.mono hm,h.c.mono hm⟩
theorem Tfit.tR {k:Nat}{l}(h:Tfit k l):Tsz k (tR l):=⟨by simpa[Go.Proofs.YtfainocfaddbdaaGreat.tR] using h.len,fun t ht=>by simp only[Go.Proofs.YtfainocfaddbdaaGreat.tR,List.mem_map] at ht;obtain⟨u,hu,rfl⟩:=ht;exact yD (h.fit u hu)⟩
theorem F.fit.fA {k:Nat}{f:F}(h:f.fit k):(fA f).sz k:=⟨h.t.tR,yD h.c⟩
theorem Tsz.fit {k:Nat}{l}(h:Tsz k l)(hk:1<=k):Tfit k (tq l):=⟨by simpa[tq] using h.len,fun t ht=>by simp only[tq,List.mem_map] at ht;obtain⟨u,hu,rfl⟩:=ht;exact (h.sz u hu).fits hk⟩
theorem A.sz.fit {k:Nat}{a:A}(h:a.sz k)(hk:1<=k):a.f.fit k:=⟨h.t.fit hk,h.c.fits hk⟩
def vT (vars:Int):Int->List (Int×R)->Bool
 |_,[]=>true| p,t::r=>decide (0<=t.1)&&decide (t.1<vars)&&decide (p<t.1)&&decide (t.2.q≠0)&&t.2.ok&&vT vars t.1 r
def A.valid (vars:Int) (a:A):Bool:=vT vars (-1) a.ts&&a.c.ok
structure Cn (l:List (Int×Rat)):Prop where
 s:l.Pairwise (fun a b=>a.1<b.1)
 n:∀ t,t∈l->t.2≠0
theorem Cn.nil:Cn []:=⟨.nil,by simp⟩
theorem Cn.tail {t l}(h:Cn (t::l)):Cn l:=⟨(List.pairwise_cons.1 h.s).2,fun u hu=>h.n u (List.mem_cons_of_mem _ hu)⟩
theorem Cn.lt {t l}(h:Cn (t::l)):∀ u,u∈l->t.1<u.1:=(List.pairwise_cons.1 h.s).1
theorem Cn.hd {t l}(h:Cn (t::l)):t.2≠0:=h.n t List.mem_cons_self
theorem Cn.cons {t l}(h:Cn l)(h1:∀ u,u∈l->t.1<u.1)(h2:t.2≠0):Cn (t::l) :=
 ⟨List.pairwise_cons.2 ⟨h1,h.s⟩,fun u hu=>by rcases List.mem_cons.1 hu with rfl|hu <;> first|exact h2|exact h.n u hu⟩
def co:List (Int×Rat)->Int->Rat
 |[],_=>0| t::r,v=>(if t.1=v then t.2 else 0)+co r v
theorem lG {l:List (Int×Rat)}{v:Int}(h:∀ t,t∈l->t.1≠v):co l v=0:=by
 induction l with
 |nil=>rfl| cons t r ih =>
  simp only[co,if_neg (h t List.mem_cons_self),ih fun u hu=>h u (List.mem_cons_of_mem _ hu)];grind
theorem kI {t:Int×Rat}{l}(h:Cn (t::l)):co (t::l) t.1=t.2:=by simp only[co,if_true,lG fun u hu=>(Int.ne_of_lt (h.lt u hu)).symm];grind
theorem Cn.ext:∀ {l m:List (Int×Rat)},Cn l->Cn m->(∀ v,co l v=co m v)->l=m
 |[],[],_,_,_=>rfl| [],b::m,_,hm,h=>by have:=h b.1;rw[kI hm] at this;exact absurd this.symm hm.hd| a::l,[],hl,_,h=>by have:=h a.1;rw[kI hl] at this;exact absurd this hl.hd| a::l,b::m,hl,hm,h=>by
  have h1:a.1=b.1:=by
   rcases Int.lt_trichotomy a.1 b.1 with c|c|c
   ·have:=h a.1;rw[kI hl,lG (l:=b::m) (fun t ht=>by
     rcases List.mem_cons.1 ht with rfl|ht;{omega}
     ·have:=hm.lt t ht;omega)] at this
    exact absurd this hl.hd
   {exact c}
   ·have:=h b.1;rw[kI hm,lG (l:=a::l) (fun t ht=>by
     rcases List.mem_cons.1 ht with rfl|ht;{omega}
     ·have:=hl.lt t ht;omega)] at this
    exact absurd this.symm hm.hd
  (have h2:a.2=b.2:=by have:=h a.1;rw[kI hl,h1,kI hm] at this;exact this);have h3:a=b:=Prod.ext h1 h2;subst h3;congr 1;refine Cn.ext hl.tail hm.tail fun v=>?_;have:=h v;simp only[co] at this;grind
def pc (v:Int) (q:Rat) (r:List (Int×Rat)):List (Int×Rat):=if q=0 then r else (v,q)::r
theorem s9 (v:Int)(q:Rat)(r)(w:Int):co (pc v q r) w=(if v=w then q else 0)+co r w:=by unfold pc;split;{rename_i h;rw[h];split <;> grind};{rfl}
theorem Cn.pc {v:Int}{q:Rat}{r}(h:Cn r)(h1:∀ u,u∈r->v<u.1):Cn (pc v q r):=by unfold Go.Proofs.YtfainocfaddbdaaGreat.pc;split;{exact h};{exact h.cons h1 (by assumption)}
theorem vC {v:Int}{q:Rat}{r u}(h:u∈pc v q r):u=(v,q)\/u∈r:=by unfold pc at h;split at h;{exact .inr h};{exact List.mem_cons.1 h}
def mrg (c:Rat):List (Int×Rat)->List (Int×Rat)->List (Int×Rat)
 |[],[]=>[]| a::aa,[]=>pc a.1 a.2 (mrg c aa [])| [],b::bb=>pc b.1 (b.2*c) (mrg c [] bb)| a::aa,b::bb=>if a.1<b.1 then pc a.1 a.2 (mrg c aa (b::bb)) else if b.1<a.1 then pc b.1 (b.2*c) (mrg c (a::aa) bb) else pc a.1 (a.2+b.2*c) (mrg c aa bb)
termination_by a b=>a.length+b.length
theorem gB (c:Rat):∀ (a b:List (Int×Rat)) (v:Int),co (mrg c a b) v=co a v+co b v*c
 |[],[],v=>by rw[mrg];simp only[co];grind| a::aa,[],v=>by rw[mrg,s9,gB c aa []];simp only[co];grind| [],b::bb,v=>by rw[mrg,s9,gB c [] bb];simp only[co];split <;> grind| a::aa,b::bb,v=>by
  rw[mrg];split;{rw[s9,gB c aa (b::bb)];simp only[co];grind}
  ·split;{rw[s9,gB c (a::aa) bb];simp only[co];split <;> grind}
   ·(have:a.1=b.1:=by omega);rw[s9,gB c aa bb];simp only[co,this];split <;> grind
termination_by a b=>a.length+b.length
theorem kY {c:Rat}:∀ {a b:List (Int×Rat)} {u},u∈mrg c a b->(∃ t,t∈a/\t.1=u.1)\/(∃ t,t∈b/\t.1=u.1)
 |[],[],u,h=>by rw[mrg] at h;exact absurd h (by simp)| a::aa,[],u,h=>by rw[mrg] at h;rcases vC h with rfl|h;{exact .inl ⟨a,List.mem_cons_self,rfl⟩};{rcases kY h with⟨t,h1,h2⟩|⟨t,h1,h2⟩;{exact .inl ⟨t,List.mem_cons_of_mem _ h1,h2⟩};{exact .inr ⟨t,h1,h2⟩}}
 |[],b::bb,u,h=>by rw[mrg] at h;rcases vC h with rfl|h;{exact .inr ⟨b,List.mem_cons_self,rfl⟩};{rcases kY h with⟨t,h1,h2⟩|⟨t,h1,h2⟩;{exact .inl ⟨t,h1,h2⟩};{exact .inr ⟨t,List.mem_cons_of_mem _ h1,h2⟩}}
 |a::aa,b::bb,u,h=>by rw[mrg] at h;split at h;{rcases vC h with rfl|h;{exact .inl ⟨a,List.mem_cons_self,rfl⟩};{rcases kY h with⟨t,h1,h2⟩|⟨t,h1,h2⟩;{exact .inl ⟨t,List.mem_cons_of_mem _ h1,h2⟩};{exact .inr ⟨t,h1,h2⟩}}};{split at h;{rcases vC h with rfl|h;{exact .inr ⟨b,List.mem_cons_self,rfl⟩};{rcases kY h with⟨t,h1,h2⟩|⟨t,h1,h2⟩;{exact .inl ⟨t,h1,h2⟩};{exact .inr ⟨t,List.mem_cons_of_mem _ h1,h2⟩}}};{rcases vC h with rfl|h;{exact .inl ⟨a,List.mem_cons_self,rfl⟩};{rcases kY h with⟨t,h1,h2⟩|⟨t,h1,h2⟩;{exact .inl ⟨t,List.mem_cons_of_mem _ h1,h2⟩};{exact .inr ⟨t,List.mem_cons_of_mem _ h1,h2⟩}}}}
termination_by a b=>a.length+b.length
theorem Cn.mrg {c:Rat}:∀ {a b:List (Int×Rat)},Cn a->Cn b->Cn (mrg c a b)
 |[],[],_,_=>by rw[Go.Proofs.YtfainocfaddbdaaGreat.mrg];exact Cn.nil| a::aa,[],ha,hb=>by rw[Go.Proofs.YtfainocfaddbdaaGreat.mrg];refine Cn.pc (Cn.mrg ha.tail hb) fun u hu=>?_;rcases kY hu with⟨t,h1,h2⟩|⟨t,h1,h2⟩;{rw[<-h2];exact ha.lt t h1};{exact absurd h1 (by simp)}
 |[],b::bb,ha,hb=>by rw[Go.Proofs.YtfainocfaddbdaaGreat.mrg];refine Cn.pc (Cn.mrg ha hb.tail) fun u hu=>?_;rcases kY hu with⟨t,h1,h2⟩|⟨t,h1,h2⟩;{exact absurd h1 (by simp)};{rw[<-h2];exact hb.lt t h1}
 |a::aa,b::bb,ha,hb=>by
  rw[Go.Proofs.YtfainocfaddbdaaGreat.mrg];split;{rename_i hlt;refine Cn.pc (Cn.mrg ha.tail hb) fun u hu=>?_;rcases kY hu with⟨t,h1,h2⟩|⟨t,h1,h2⟩;{rw[<-h2];exact ha.lt t h1};{rw[<-h2];rcases List.mem_cons.1 h1 with rfl|h1;{exact hlt};{exact Int.lt_trans hlt (hb.lt t h1)}}}
  ·split;{rename_i _ hlt;refine Cn.pc (Cn.mrg ha hb.tail) fun u hu=>?_;rcases kY hu with⟨t,h1,h2⟩|⟨t,h1,h2⟩;{rw[<-h2];rcases List.mem_cons.1 h1 with rfl|h1;{exact hlt};{exact Int.lt_trans hlt (ha.lt t h1)}};{rw[<-h2];exact hb.lt t h1}}
   ·(have:a.1=b.1:=by omega);refine Cn.pc (Cn.mrg ha.tail hb.tail) fun u hu=>?_
    rcases kY hu with⟨t,h1,h2⟩|⟨t,h1,h2⟩;{rw[<-h2];exact ha.lt t h1};{rw[<-h2,this];exact hb.lt t h1}
termination_by a b=>a.length+b.length
theorem dM (v:Int)(q:Rat)(r):(pc v q r).length<=r.length+1:=by unfold pc;split <;> simp
theorem gH (c:Rat):∀ (a b:List (Int×Rat)),(mrg c a b).length<=a.length+b.length
 |[],[]=>by rw[mrg];simp| a::aa,[]=>by rw[mrg];have:=dM a.1 a.2 (mrg c aa []);have:=gH c aa [];simp only[List.length_cons] at *;omega| [],b::bb=>by rw[mrg];have:=dM b.1 (b.2*c) (mrg c [] bb);have:=gH c [] bb;simp only[List.length_cons] at *;omega| a::aa,b::bb=>by rw[mrg];split;{have:=dM a.1 a.2 (mrg c aa (b::bb));have:=gH c aa (b::bb);simp only[List.length_cons] at *;omega};{split;{have:=dM b.1 (b.2*c) (mrg c (a::aa) bb);have:=gH c (a::aa) bb;simp only[List.length_cons] at *;omega};{have:=dM a.1 (a.2+b.2*c) (mrg c aa bb);have:=gH c aa bb;simp only[List.length_cons] at *;omega}}
termination_by a b=>a.length+b.length
def F.merge (f g:F) (c:Rat):F:=⟨mrg c f.ts g.ts,f.c+g.c*c⟩
def F.add (f g:F):F:=f.merge g 1
def F.sub (f g:F):F:=f.merge g (-1)
def F.scale (f:F) (c:Rat):F:=F.merge ⟨[],0⟩ f c
theorem a8 {c:Rat}{k m:Nat}(hc:Fits m c):∀ {a b:List (Int×Rat)},(∀ t,t∈a->Fits k t.2)->(∀ t,t∈b->Fits k t.2)->∀ u,u∈mrg c a b->Fits (2*k+m+1) u.2
 |[],[],_,_,u,h=>by rw[mrg] at h;exact absurd h (by simp)| a::aa,[],ha,hb,u,h=>by rw[mrg] at h;rcases vC h with rfl|h;{exact (ha a List.mem_cons_self).mono (by omega)};{exact a8 hc (fun t ht=>ha t (List.mem_cons_of_mem _ ht)) hb u h}
 |[],b::bb,ha,hb,u,h=>by rw[mrg] at h;rcases vC h with rfl|h;{exact (wU (hb b List.mem_cons_self) hc).mono (by omega)};{exact a8 hc ha (fun t ht=>hb t (List.mem_cons_of_mem _ ht)) u h}
 |a::aa,b::bb,ha,hb,u,h=>by rw[mrg] at h;split at h;{rcases vC h with rfl|h;{exact (ha a List.mem_cons_self).mono (by omega)};{exact a8 hc (fun t ht=>ha t (List.mem_cons_of_mem _ ht)) hb u h}};{split at h;{rcases vC h with rfl|h;{exact (wU (hb b List.mem_cons_self) hc).mono (by omega)};{exact a8 hc ha (fun t ht=>hb t (List.mem_cons_of_mem _ ht)) u h}};{rcases vC h with rfl|h;{exact (qF (ha a List.mem_cons_self) (wU (hb b List.mem_cons_self) hc)).mono (by omega)};{exact a8 hc (fun t ht=>ha t (List.mem_cons_of_mem _ ht)) (fun t ht=>hb t (List.mem_cons_of_mem _ ht)) u h}}}
termination_by a b=>a.length+b.length
theorem okQ {p:Prop}(h:p:=by (try simp only[zN,zG] at *) <;> (try dsimp only [zJ] at *) <;> omega):p:=h
theorem kR {α:Type}{l:List α}{i:Nat}{t:α}(h:l[i]?=some t):l.drop i=t::l.drop (i+1):=by obtain⟨h1,h2⟩:=List.getElem?_eq_some_iff.1 h;rw[<-h2,List.drop_eq_getElem_cons h1]
theorem nV (vars p:Int)(t r):vT vars p (t::r)=(decide (0<=t.1)&&decide (t.1<vars)&&decide (p<t.1)&&decide (t.2.q≠0)&&t.2.ok&&vT vars t.1 r):=rfl
theorem sgnQ_ne {q:Rat}:yX q≠0↔q≠0:=by unfold yX;split <;> (try split) <;> grind
theorem zDE (a:A)(vars:Int)(ha:a.sz (2^36)):zH 80 [av a,.int .i64 (fun _=>vars)] (.bool (fun _=>a.valid vars)):=by
 refine sF Tryz.f80 ?_;obtain⟨ts,c⟩:=a;have hl:=ha.t.len;have hts:=ha.t.sz;have cc:=s103 c ha.c;generalize hr:A.valid vars ⟨ts,c⟩=r;have hr0:r=(vT vars (-1) ts&&c.ok):=hr.symm;simp only at hl hts cc;generalize c.ok=co at *
 clear hr ha;cbv;refine z9 (σ:=Nat×Int) (fun s=>⟨[(1,.int .i64 (fun _=>vars)),(2,.ptr 2 0),(8,tsv ts),(9,.int .i64 (fun _=>(ts.length:Int))),(10,.int .i64 (fun _=>(s.1:Int)))],[(2,.box [tsv ts,.bool (fun _=>c.neg),nat c.num,nat c.den])]⟩)
  (fun s=>s.1<=ts.length/\r=(vT vars s.2 (ts.drop s.1)&&co)/\(s.1=0->s.2=-1)/\(s.1≠0->∃ u,ts[s.1-1]?=some u/\u.1=s.2)) (fun s=>ts.length-s.1)
  (0,-1) ⟨om,hr0,fun _=>rfl,fun h=>absurd rfl h⟩ (.le ?_ ?_ rfl) ?_
 {cbv;exact⟨lR,lR,lR,zC (by (try dsimp only [zJ] at *);rw[zN]),lR,trivial⟩};{cbv;exact okA};intro s hs;obtain⟨h1,hv,h3,h4⟩:=hs;generalize s.1=i at *
 generalize s.2=p at *
 cbv;refine zF (fun h5=>?_) (fun h5=>?_)
 ·(cbv;refine c7 (l:=ts) i om om qJ jI (fun t ht=>?_);rw[kR ht,nV] at hv;have htz:=hts t (List.mem_of_getElem? ht);have cs:=s86 t.2 (by have:=htz.n;omega);have cv:=s103 t.2 htz;have hq:decide (t.2.q≠0)=decide (yX t.2.q≠0):=by rw[decide_eq_decide];exact sgnQ_ne.symm);rw[hq] at hv
  generalize yX t.2.q=sg at *
  generalize hok:t.2.ok=ok at *
  (obtain⟨v,x1,x2,x3⟩:=t;simp only at hv;generalize hrest:(vT vars v (ts.drop (i+1))&&co)=rest;have hv':r=(decide (0<=v)&&decide (v<vars)&&decide (p<v)&&decide (sg≠0)&&ok&&rest):=by rw[hv,<-hrest];simp only[Bool.and_assoc]);clear hv
  cbv;refine zZ 37 (by cbv) ?_;cbv;refine yO (fun e1=>?_) (fun e1=>?_)
  ·cbv
   (refine rC ?_;cbv)
   exact zQ (by rw[hv',decide_eq_false (by omega)];rfl)
  cbv;refine yO (fun e2=>?_) (fun e2=>?_)
  ·cbv
   (refine rC ?_;cbv)
   exact zQ (by rw[hv',decide_eq_false (p:=v<vars) (by omega)];simp)
  (cbv;have fin:(¬(p<v)->r=false):=fun h=>by rw[hv',decide_eq_false (p:=p<v) h];simp);have hmain:(p<v)->r=(decide (sg≠0)&&ok&&rest):=fun h=>by rw[hv',decide_eq_true (p:=p<v) h,decide_eq_true (p:=0<=v) (by omega),decide_eq_true (p:=v<vars) (by omega)];simp only[Bool.true_and]
  clear hv';refine yO (fun e3=>?_) (fun e3=>?_)
  ·(obtain⟨u,hu,hu2⟩:=h4 om;cbv;refine⟨zD om om,c7 (l:=ts) (i-1) om om qJ jI (fun u' hu'=>?_)⟩;have:u'=u:=by rw[hu] at hu';exact (Option.some.inj hu').symm);subst this
   obtain⟨w,y1,y2,y3⟩:=u';simp only at hu2;cbv;refine yO (fun e4=>?_) (fun e4=>?_)
   ·cbv
    (refine rC ?_;cbv)
    exact zQ (fin (by omega))
   have hm:=hmain (by omega);cbv;refine dA cs ?_;cbv;refine yO (fun e5=>?_) (fun e5=>?_)
   ·cbv
    (refine rC ?_;cbv)
    exact zQ (by rw[hm,decide_eq_false (by simpa using e5)];rfl)
   rw[decide_eq_true e5,Bool.true_and] at hm;cbv;refine dA cv ?_;cbv;refine yZ (fun e6=>?_) (fun e6=>?_);{rw[e6,Bool.true_and] at hm;cbv;exact⟨zD om om,(i+1,v),⟨om,by rw[hm,hrest],fun h=>absurd h (by simp),fun _=>⟨_,ht,rfl⟩⟩,om,.le (by cbv;exact⟨lR,lR,lR,lR,zC om,trivial⟩) (by cbv;exact okA) rfl⟩}
   ·cbv
    (refine rC ?_;cbv)
    exact zQ (by rw[hm,e6];rfl)
  ·have hp:=h3 om;have hm:=hmain (by omega);cbv;refine dA cs ?_;cbv;refine yO (fun e5=>?_) (fun e5=>?_)
   ·cbv
    (refine rC ?_;cbv)
    exact zQ (by rw[hm,decide_eq_false (by simpa using e5)];rfl)
   rw[decide_eq_true e5,Bool.true_and] at hm;cbv;refine dA cv ?_;cbv;refine yZ (fun e6=>?_) (fun e6=>?_);{rw[e6,Bool.true_and] at hm;cbv;exact⟨zD om om,(i+1,v),⟨om,by rw[hm,hrest],fun h=>absurd h (by simp),fun _=>⟨_,ht,rfl⟩⟩,om,.le (by cbv;exact⟨lR,lR,lR,lR,zC om,trivial⟩) (by cbv;exact okA) rfl⟩}
   ·cbv
    (refine rC ?_;cbv)
    exact zQ (by rw[hm,e6];rfl)
 ·(have he:i=ts.length:=om;rw[he,List.drop_length] at hv;have hv':r=co:=by rw[hv];rfl);cbv
  refine cA cc ?_;cbv
  (refine rC ?_;cbv)
  exact zK hv'.symm
theorem zN9 {rs:List ResultVar}{r:PV}{ps ps':PS}{n:Nat}{o:Obj'}(m:Nat)(hw:Wk ps ps')(h3:lv r=true)(h4:z8 ps'.objs m=some (xG (ren (fun _=>m)) o))(h5:gC o=true) (h:match fG ps' rs with
  |some l=>les (pW l) (ren (fun _=>m) r)| none=>False):RetOk rs r [] [(n,o)] ps:=by
 cases h1:fG ps' rs with
 |none=>rw[h1] at h;exact h.elim| some l=>rw[h1] at h;exact⟨ps',l,fun _=>m,hw,h1,fQ h,h3,⟨⟨h4,h5⟩,trivial⟩,rfl,trivial⟩
theorem zLZ {rs:List ResultVar}{r:PV}{ps:PS}(ps':PS)(hw:Wk ps ps')(h3:lv r=true) (h:match fG ps' rs with
  |some l=>les (pW l) (ren id r)| none=>False):RetOk rs r [] [] ps:=by
 cases h1:fG ps' rs with
 |none=>rw[h1] at h;exact h.elim| some l=>rw[h1] at h;exact⟨ps',l,id,hw,h1,fQ h,h3,trivial,rfl,trivial⟩
theorem v6 {p:Prop}[Decidable p]{A B:Unit->Prop}(h:p)(h1:A ()):Br (fun _=>decide p) A B:=yO (fun _=>h1) (fun g=>(g h).elim)
theorem zOH {p:Prop}[Decidable p]{A B:Unit->Prop}(h:¬p)(h1:B ()):Br (fun _=>decide p) A B:=yO (fun g=>(h g).elim) (fun _=>h1)
theorem sG {p:Prop}[Decidable p]{A B:(Exit->PS->Prop)->Prop}{Q:Exit->PS->Prop}(h:p)(h1:A Q):Cut (fun _=>decide p) A B Q:=zF (fun _=>h1) (fun g=>(g h).elim)
theorem gA {p:Prop}[Decidable p]{A B:(Exit->PS->Prop)->Prop}{Q:Exit->PS->Prop}(h:¬p)(h1:B Q):Cut (fun _=>decide p) A B Q:=zF (fun g=>(h g).elim) (fun _=>h1)
def pcr (l:List (Int×Rat)) (v:Int) (q:Rat):List (Int×Rat):=if q=0 then l else l++[(v,q)]
theorem aZ (l:List (Int×Rat))(v:Int)(q:Rat)(r):pcr l v q++r=l++pc v q r:=by unfold pcr pc;split <;> simp
theorem vM (l:List (Int×Rat)):(tR l).length=l.length:=by simp[tR]
theorem zO6 (l m:List (Int×Rat)):tR (l++m)=tR l++tR m:=by simp[tR]
theorem zMC:ty 23=.sli 4 64 [.int .i64 (fun _=>0),.ff,.nil,.nil]:=by cbv
theorem aY (l:List (Int×Rat))(v:Int)(q:Rat):(pcr l v q).length<=l.length+1:=by unfold pcr;split <;> simp
theorem zMK (t:Int×R)(l):tq (t::l)=(t.1,t.2.q)::tq l:=rfl
theorem zM6 (z:Int)(h1:-1000<=z)(h2:z<=1000):(zL (z:Rat)).sz 1:=yD (aJ (by show z.natAbs<4294967296^1;omega) (by decide))
structure Row where
 k:Int
 i:Int
 lo:Int
 hi:Int
deriving DecidableEq
structure Mult where
 row:Row
 c:R
deriving DecidableEq
structure Dec where
 k:Int
 i:Int
 x:R
structure Lem where
 u:Int
 up:Bool
 v:R
 pf:List Mult
structure Grp where
 n:Int
 us:List A
 os:List A
structure Reg where
 lo:List R
 hi:List R
 rows:List A
structure Qry where
 g:Grp
 r:Reg
 goal:A
structure Scp where
 q:Qry
 path:List Dec
 lems:List Lem
abbrev rlv (l:List R):PV:=.sl (fun _=>enc rc l)
abbrev alv (l:List A):PV:=.sl (fun _=>enc ac l)
def mc (m:Mult):List PV:=[.int .i64 (fun _=>m.row.k),.int .i64 (fun _=>m.row.i),.int .i64 (fun _=>m.row.lo),.int .i64 (fun _=>m.row.hi),.bool (fun _=>m.c.neg),nat m.c.num,nat m.c.den]
abbrev mlv (l:List Mult):PV:=.sl (fun _=>enc mc l)
def dc (d:Dec):List PV:=[.int .i64 (fun _=>d.k),.int .i64 (fun _=>d.i),.bool (fun _=>d.x.neg),nat d.x.num,nat d.x.den]
abbrev dlv (l:List Dec):PV:=.sl (fun _=>enc dc l)
def lc (l:Lem):List PV:=[.int .i64 (fun _=>l.u),.bool (fun _=>l.up),.bool (fun _=>l.v.neg),nat l.v.num,nat l.v.den,mlv l.pf]
abbrev llv (l:List Lem):PV:=.sl (fun _=>enc lc l)
def sc (s:Scp):List PV:=[.int .i64 (fun _=>s.q.g.n),alv s.q.g.us,alv s.q.g.os,rlv s.q.r.lo,rlv s.q.r.hi,alv s.q.r.rows,tsv s.q.goal.ts,.bool (fun _=>s.q.goal.c.neg),nat s.q.goal.c.num,nat s.q.goal.c.den,dlv s.path,llv s.lems]
structure Asz (k:Nat) (l:List A):Prop where
 len:l.length<2^38
 sz:∀ a,a∈l->a.sz k
theorem Asz.mono {k m:Nat}{l}(h:Asz k l)(hm:k<=m):Asz m l:=⟨h.len,fun a ha=>(h.sz a ha).mono hm⟩
theorem tE:∀ a:PV,les a a
 |.agg cs=>allLe_refl1 cs| .tup cs=>allLe_refl1 cs| .fn f cs=>⟨nqb_self f,allLe_refl1 cs⟩| .int k n=>lR| .tt=>lR| .ff=>lR| .bool b=>lR| .nbool b=>lR| .str s=>lR| .nil=>lR| .sl els=>lR| .ptr n o=>lR| .aptr n s i o=>lR| .dptr cs o=>lR| .osl n s o l=>lR| .nilf=>lR| .nilp=>lR| .emp=>lR| .any=>lR
where
 les1_refl:∀ a:PV,les1 a a
  |.agg cs=>allLeS_refl cs| .tup cs=>allLeS_refl cs| .fn f cs=>lR| .int k n=>lR| .tt=>lR| .ff=>lR| .bool b=>lR| .nbool b=>lR| .str s=>lR| .nil=>lR| .sl els=>lR| .ptr n o=>lR| .aptr n s i o=>lR| .dptr cs o=>lR| .osl n s o l=>lR| .nilf=>lR| .nilp=>lR| .emp=>lR| .any=>lR
 allLeS_refl:∀ l:List PV,kU LeS l l
  |[]=>trivial| a::r=>⟨aF a,allLeS_refl r⟩
 allLe_refl1:∀ l:List PV,kU les1 l l
  |[]=>trivial| a::r=>⟨les1_refl a,allLe_refl1 r⟩
theorem zAW:∀ l:List PV,kU les l l
 |[]=>trivial| a::r=>⟨tE a,zAW r⟩
def selT (T:List (Nat×PV)):List Nat->List (Nat×PV)
 |[]=>[]| t::r=>(t,zA T t)::selT T r
def selO (O:List (Nat×Obj')):List Nat->List (Nat×Obj')
 |[]=>[]
 |n::r=>(match z8 O n with
  |some o=>(n,o)::selO O r| none=>selO O r)
def ndN:List Nat->Bool
 |[]=>true| n::r=>!(z5 n r)&&ndN r
theorem zDY:∀ (hs:List (PV×(Unit->Nat))),hLe hs hs
 |[]=>trivial| (v,k)::r=>⟨⟨lR,lR⟩,zDY r⟩
theorem zE5:∀ o:Obj',oU o o
 |.mat s r hs=>⟨nqb_self s,⟨rfl⟩,zDY hs⟩| .box cs=>zAW cs| .arr s e=>⟨nqb_self s,⟨rfl⟩⟩| .log s e=>⟨nqb_self s,⟨rfl⟩⟩| .lent s e=>⟨nqb_self s,⟨rfl⟩⟩
theorem zG4 (T:List (Nat×PV)):∀ L,leT T (selT T L)
 |[]=>trivial| t::r=>⟨tE _,zG4 T r⟩
theorem zBU (O:List (Nat×Obj')):∀ M,leO O (selO O M)
 |[]=>trivial| n::r=>by
  unfold selO;cases h:z8 O n with
  |none=>exact zBU O r| some o =>
   refine⟨?_,zBU O r⟩;rw[h];exact zE5 o
theorem eH (O:List (Nat×Obj'))(m:Nat):∀ M,z5 m M=false->hasN m (selO O M)=false
 |[],_=>rfl| n::r,h=>by
  simp only[z5,Bool.or_eq_false_iff] at h;unfold selO;cases z8 O n with
  |none=>exact eH O m r h.2| some o =>
   simp only[hasN,Bool.or_eq_false_iff];refine⟨?_,eH O m r h.2⟩;have:=h.1;cases hx:nqb n m with
   |false=>rfl| true=>rw[yG hx,nqb_self] at this;cases this
theorem zBR (O:List (Nat×Obj')):∀ M,ndN M=true->ndO (selO O M)=true
 |[],_=>rfl| n::r,h=>by
  simp only[ndN,Bool.and_eq_true,Bool.not_eq_true'] at h;unfold selO;cases z8 O n with
  |none=>exact zBR O r h.2| some o =>
   simp only[ndO,Bool.and_eq_true,Bool.not_eq_true'];exact⟨eH O n r h.1,zBR O r h.2⟩
theorem Wk.sel (ps:PS)(L M:List Nat)(h:ndN M=true):Wk ps ⟨selT ps.tmps L,selO ps.objs M⟩:=.le (zG4 _ _) (zBU _ _) (zBR _ _ h)

theorem j5 {α:Type}{l:List α}{i:Nat}(h:i<l.length):∃ a,l[i]?=some a:=⟨l[i],by simp[h]⟩
abbrev R0:R:=⟨false,[],[]⟩
def F.var (v:Int):F:=⟨[(v,1)],0⟩
def F.num (q:Rat):F:=⟨[],q⟩

theorem uM {α:Type}{p:α->List PV}{n:Nat}{l:List α}{i:Nat}{a:α}{K:List PV->Prop}(h:l[i]?=some a)(hf:∀ a,yP k8 (p a)=true)(hn:∀ a,(p a).length=n)(hK:K (p a)):IdxOk n (fun _=>enc p l) (fun _=>(i:Int)) K :=
 c7 (l:=l) i rfl (List.getElem?_eq_some_iff.1 h).1 hf hn (fun a' ha'=>by rw[h] at ha';cases ha';exact hK)
theorem zG6 {α:Type}{p:α->List PV}{n:Nat}{l:List α}{i:Nat}{k:Int}{a:α}{K:List PV->Prop}(h:l[i]?=some a)(hk:k=(i:Int))(hf:∀ a,yP k8 (p a)=true)(hn:∀ a,(p a).length=n)(hK:K (p a)):IdxOk n (fun _=>enc p l) (fun _=>k) K :=
 c7 (l:=l) i hk (List.getElem?_eq_some_iff.1 h).1 hf hn (fun a' ha'=>by rw[h] at ha';cases ha';exact hK)
theorem rV {α:Type}{p:α->List PV}{l:List α}{i:Nat}(h:(i:Int)<((enc p l).length:Int)):i<l.length:=by rw[zN] at h;omega
theorem zCU {α:Type}{p:α->List PV}{l:List α}{i:Nat}(h:¬(i:Int)<((enc p l).length:Int))(h2:i<=l.length):i=l.length:=by rw[zN] at h;omega
end Go.Proofs.YtfainocfaddbdaaGreat
