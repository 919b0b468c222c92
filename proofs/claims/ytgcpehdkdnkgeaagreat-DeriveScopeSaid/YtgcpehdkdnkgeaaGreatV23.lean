/- A part of the proof: ReE, ReF, ReG, ReH, AfA. -/
import Derived.Test.YtgcpehdkdnkgeaaGreatV22
set_option linter.all false
namespace Go.Proofs.YtgcpehdkdnkgeaaGreat
open Go
set_option maxRecDepth 100000
theorem s158 (a b:List UInt32)(ha:a.length<2^34)(hb:b.length<2^34):zE 137 [nat a,nat b] (nat (zI (Nat.gcd (val a) (val b)))):=by
 refine sF Tryz.f137 ?_
 have ha':=Nat.lt_of_le_of_lt (zU a) ha
 have hb':=Nat.lt_of_le_of_lt (zU b) hb
 generalize hg:Nat.gcd (val a) (val b)=g
 cbv
 refine cA (r7 a (by omega)) ?_
 cbv
 refine cA (r7 b (by omega)) ?_
 cbv
 refine zY (σ:=Nat × Nat) (fun z=>⟨[(0,nat (zI z.1)),(1,nat (zI z.2))],[]⟩) (fun z=>(zI z.1).length<2^34∧(zI z.2).length<2^34∧Nat.gcd z.1 z.2=g) (fun z=>z.2) (val a,val b) ⟨ha',hb',hg⟩ (.le ?_ trivial rfl) ?_
 ·cbv
  exact okA
 intro z hz
 obtain⟨h1,h2,h3⟩:=hz
 generalize z.1=x at *
 generalize z.2=y at *
 cbv
 refine zH (fun h4=>?_) (fun h4=>?_)
 ·have hy:y≠0:=fun e=>by subst e;(try dsimp only [zG] at *);simp [lm,yM] at h4
  have hm:=Nat.mod_lt x (Nat.pos_of_ne_zero hy)
  have c1:=s159 (zI x) (zI y) h1 h2 (by rw[zM];exact hy)
  rw[zM,zM] at c1
  cbv
  refine cA c1 ?_
  cbv
  refine⟨(y,x % y),⟨h2,Nat.lt_of_le_of_lt (uD (Nat.le_of_lt hm)) h2,by rw[Nat.gcd_comm,←Nat.gcd_rec,Nat.gcd_comm];exact h3⟩,hm,.le ?_ trivial rfl⟩
  cbv
  exact okA
 ·have hy:y=0:=xH.1 (List.eq_nil_of_length_eq_zero (by (try dsimp only [zG] at *);rw[zK] at h4;omega))
  subst hy
  cbv
  (refine rC ?_;cbv)
  exact zP (by rw[←h3,Nat.gcd_zero_right])
theorem s148 (neg:Bool)(m:List UInt32)(hm:m.length<2^40):zE 158 [.bool (fun _=>neg),nat m] (zv (xF (sgn neg (val m)))):=by
 refine sF Tryz.f158 ?_
 rw[zD3]
 cbv
 refine cA (r7 m (by omega)) ?_
 cbv
 refine z4 (fun h=>?_) (fun h=>?_)
 ·subst h
  cbv
  (refine rC ?_;cbv)
  refine⟨zV ?_,lR,trivial⟩
  rw[Bool.eq_iff_iff]
  simp only[decide_eq_true_eq,zK,Bool.true_and]
  rw[←@xH (val m),←List.length_eq_zero_iff]
  (try dsimp only [zG] at *)
  omega
 ·subst h
  cbv
  (refine rC ?_;cbv)
  exact okA
theorem s88 (x:Int)(h1:-9223372036854775808≤x)(h2:x<9223372036854775808):zE 98 [.int .i64 (fun _=>x)] (zv (xF x)):=by
 refine sF Tryz.f98 ?_
 have hBB:B * B=18446744073709551616:=by decide
 have hl:(zI x.natAbs).length≤2:=len2.2 (by omega)
 have c1:=s148 true (zI x.natAbs) (by omega)
 have c2:=s148 false (zI x.natAbs) (by omega)
 have c3:=s149 x.natAbs (by omega)
 rw[zM] at c1 c2
 have e1:x<0→sgn true x.natAbs=x:=fun h=>by show -(x.natAbs:Int)=x;omega
 have e2:¬ x<0→sgn false x.natAbs=x:=fun h=>by show (x.natAbs:Int)=x;omega
 have n1:x<0→nx .u64 (0 - nx .u64 x)=((x.natAbs:Nat):Int):=fun h=>by simp only[wW];omega
 have n2:¬ x<0→nx .u64 x=((x.natAbs:Nat):Int):=fun h=>by simp only[wW];omega
 generalize x.natAbs=n at *
 cbv
 refine zH (fun h=>?_) (fun h=>?_)
 ·rw[e1 h] at c1
  generalize xF x=W at *
  have n3:=n1 h
  cbv
  refine yX rfl (by exact⟨zC n3,trivial⟩) c3 rfl ?_
  cbv
  refine cA c1 ?_
  cbv
  (refine rC ?_;cbv)
  exact okA
 ·rw[e2 h] at c2
  generalize xF x=W at *
  have n3:=n2 h
  cbv
  refine yX rfl (by exact⟨zC n3,trivial⟩) c3 rfl ?_
  cbv
  refine cA c2 ?_
  cbv
  (refine rC ?_;cbv)
  exact okA
theorem s90 (x:Z)(hx:x.mag.length<2^40):zE 91 [zv x] (.int .i64 (fun _=>uX x.v)):=by
 refine sF Tryz.f91 ?_
 have c1:=s148 x.neg x.mag hx
 have e:sgn x.neg (val x.mag)=x.v:=rfl
 rw[e] at c1
 have hneg:(xF x.v).neg=decide (x.v<0):=rfl
 have hmag:(xF x.v).mag.length=0↔x.v=0:=by
  show (zI x.v.natAbs).length=0↔_
  rw[List.length_eq_zero_iff,xH];omega
 have e0:x.v=0→uX x.v=0:=fun h=>by rw[h];rfl
 have e1:x.v<0→uX x.v=-1:=fun h=>by unfold uX;rw[if_pos h]
 have e2:¬ x.v<0→x.v≠0→uX x.v=1:=fun h h'=>by unfold uX;rw[if_neg h,if_pos (by omega)]
 generalize uX x.v=s at *
 generalize xF x.v=W at *
 generalize x.v=v at *
 obtain⟨a,m⟩:=x
 obtain⟨w1,w2⟩:=W
 simp only at hneg hmag
 cbv
 refine cA c1 ?_
 cbv
 refine zH (fun h=>?_) (fun h=>?_)
 ·cbv
  (refine rC ?_;cbv)
  exact zC (e0 (hmag.1 om)).symm
 ·have hv:v≠0:=fun e=>h (by have:=hmag.2 e;(try dsimp only [zG] at *);rw[zK];omega)
  cbv
  refine zS (fun h2=>?_) (fun h2=>?_)
  ·cbv
   (refine rC ?_;cbv)
   exact zC (e1 (of_decide_eq_true (hneg.symm.trans h2))).symm
  ·cbv
   (refine rC ?_;cbv)
   exact zC (e2 (of_decide_eq_false (hneg.symm.trans h2)) hv).symm
theorem s101 (x y:Z)(hx:x.mag.length<2^38)(hy:y.mag.length<2^38):zE 113 [zv x,zv y] (zv (xF (x.v+y.v))):=by
 refine sF Tryz.f113 ?_
 obtain⟨n1,m1⟩:=x
 obtain⟨n2,m2⟩:=y
 have hv:Z.v ⟨n1,m1⟩+Z.v ⟨n2,m2⟩=sgn n1 (val m1)+sgn n2 (val m2):=rfl
 have hl:=zG5 m1 m2
 have hl1:=lW m1 m2
 have hl2:=lW m2 m1
 have hx':m1.length<2^38:=hx
 have hy':m2.length<2^38:=hy
 rw[hv]
 have c1:n1=n2→zE 158 [.bool (fun _=>n1),nat (zI (val m1+val m2))] (zv (xF (sgn n1 (val m1)+sgn n2 (val m2)))):=by
  intro h
  have:=s148 n1 (zI (val m1+val m2)) (by omega)
  rw[zM] at this
  have e:sgn n1 (val m1+val m2)=sgn n1 (val m1)+sgn n2 (val m2):=by rw[←h];cases n1 <;> simp [sgn];omega
  rw[e] at this
  exact this
 have c2:n1≠n2→val m2≤val m1→zE 158 [.bool (fun _=>n1),nat (zI (val m1 - val m2))] (zv (xF (sgn n1 (val m1)+sgn n2 (val m2)))):=by
  intro h hge
  have:=s148 n1 (zI (val m1 - val m2)) (by omega)
  rw[zM] at this
  have e:sgn n1 (val m1 - val m2)=sgn n1 (val m1)+sgn n2 (val m2):=by cases n1 <;> cases n2 <;> simp [sgn] at h ⊢ <;> omega
  rw[e] at this
  exact this
 have c3:n1≠n2→¬ val m2≤val m1→zE 158 [.bool (fun _=>n2),nat (zI (val m2 - val m1))] (zv (xF (sgn n1 (val m1)+sgn n2 (val m2)))):=by
  intro h hge
  have:=s148 n2 (zI (val m2 - val m1)) (by omega)
  rw[zM] at this
  have e:sgn n2 (val m2 - val m1)=sgn n1 (val m1)+sgn n2 (val m2):=by cases n1 <;> cases n2 <;> simp [sgn] at h ⊢ <;> omega
  rw[e] at this
  exact this
 have cs1:=s157 m1 m2 (by omega) (by omega)
 have cs2:=s157 m2 m1 (by omega) (by omega)
 have hE1:val m2≤val m1→(if val m2≤val m1 then (0:Int) else 2)=0:=fun h=>if_pos h
 have hE2:¬ val m2≤val m1→(if val m2≤val m1 then (0:Int) else 2)=2:=fun h=>if_neg h
 generalize (if val m2≤val m1 then (0:Int) else 2)=E at *
 generalize (if val m1≤val m2 then (0:Int) else 2)=E' at *
 generalize sgn n1 (val m1)+sgn n2 (val m2)=T at *
 cbv
 refine zH (fun h=>?_) (fun h=>?_)
 ·have h':=c1 h
  generalize xF T=W at *
  cbv
  refine zO 8 (by cbv) ?_
  cbv
  refine dA (s156 m1 m2 (by omega) (by omega)) ?_
  cbv
  refine dA h' ?_
  cbv
  (refine rC ?_;cbv)
  exact okA
 ·have h2:=c2 h
  have h3:=c3 h
  generalize xF T=W at *
  cbv
  refine cA cs1 ?_
  cbv
  refine zH (fun h4=>?_) (fun h4=>?_)
  ·have hge:val m2≤val m1:=by
    rcases Nat.lt_or_ge (val m1) (val m2) with e | e
    ·have:=hE2 (by omega);omega
    ·exact e
   cbv
   refine cA (h2 hge) ?_
   cbv
   (refine rC ?_;cbv)
   exact okA
  ·have hlt:¬ val m2≤val m1:=fun e=>h4 (hE1 e)
   cbv
   refine cA cs2 ?_
   cbv
   refine cA (h3 hlt) ?_
   cbv
   (refine rC ?_;cbv)
   exact okA
def uY (d:List UInt32):List UInt32:=zI (if val d=0 then 1 else val d)
theorem gL (x:R):val (uY x.den)=x.d:=by
 unfold uY R.d
 rw[zM]
theorem bR (d:List UInt32):(uY d).length≤d.length+1:=by
 unfold uY
 split
 ·rw[m4];simp
 ·have:=zU d;omega
theorem s100 (d:List UInt32)(hd:d.length<2^40):zE 73 [nat d] (nat (uY d)):=by
 refine sF Tryz.f73 ?_
 have c1:=r7 d (by omega)
 have e1:(zI (val d)).length=0→uY d=[1]:=fun h=>by unfold uY;rw[if_pos (xH.1 (List.eq_nil_of_length_eq_zero h)),m4]
 have e2:(zI (val d)).length≠0→uY d=zI (val d):=fun h=>by unfold uY;rw[if_neg (fun e=>h (by rw[e,yM];rfl))]
 generalize uY d=u at *
 generalize zI (val d)=p at *
 cbv
 refine cA c1 ?_
 cbv
 refine zH (fun h=>?_) (fun h=>?_)
 ·have:=e1 om
  subst this
  cbv
  (refine rC ?_;cbv)
  exact zP rfl
 ·have:=e2 (by (try dsimp only [zG] at *);rw[zK] at h;omega)
  subst this
  cbv
  (refine rC ?_;cbv)
  exact lR
theorem s102 (neg:Bool)(num den:List UInt32)(hn:num.length<2^33)(hd:den.length<2^33)(h0:val den≠0):zE 72 [.bool (fun _=>neg),nat num,nat den] (rv (zJ (mkRat (sgn neg (val num)) (val den)))):=by
 refine sF Tryz.f72 ?_
 rw[mS h0]
 have hg0:Nat.gcd (val num) (val den)≠0:=fun e=>h0 (Nat.eq_zero_of_gcd_eq_zero_right e)
 have hgl:(zI (Nat.gcd (val num) (val den))).length<2^33:=Nat.lt_of_le_of_lt (Nat.le_trans (uD (Nat.le_of_dvd (Nat.pos_of_ne_zero h0) (Nat.gcd_dvd_right _ _))) (zU den)) hd
 have cg:=s158 num den (by omega) (by omega)
 have cn:=s159 num (zI (Nat.gcd (val num) (val den))) (by omega) (by omega) (by rw[zM];exact hg0)
 have cd:=s159 den (zI (Nat.gcd (val num) (val den))) (by omega) (by omega) (by rw[zM];exact hg0)
 rw[zM] at cn cd
 have hnz:val num / Nat.gcd (val num) (val den)=0↔val num=0:=by
  rw[Nat.div_eq_zero_iff_lt (Nat.pos_of_ne_zero hg0)]
  constructor
  ·intro h
   rcases Nat.eq_zero_or_pos (val num) with e | e
   ·exact e
   ·have:=Nat.gcd_le_left (val den) e;omega
  ·intro h;omega
 have hdl:(zI (val den / Nat.gcd (val num) (val den))).length<2^33:=Nat.lt_of_le_of_lt (Nat.le_trans (uD (Nat.div_le_self _ _)) (zU den)) hd
 generalize val den / Nat.gcd (val num) (val den)=D' at *
 generalize val num / Nat.gcd (val num) (val den)=N' at *
 generalize Nat.gcd (val num) (val den)=g at *
 generalize val num=N at *
 show wp _ _ (jI _ (.agg [.bool (fun _=>neg && decide (N≠0)),nat (zI N'),nat (if D'=1 then [] else zI D')]) [] [])
 have hN0:decide (N≠0)=decide (0<(zI N').length):=by
  rw[decide_eq_decide,List.length_pos_iff,ne_eq,ne_eq,xH,hnz]
 rw[hN0]
 have hone:=@kV D'
 generalize hr2:(if D'=1 then [] else zI D')=r2
 have hr2a:zI D'=[1]→r2=[]:=fun h=>by rw[←hr2,if_pos (hone.1 h)]
 have hr2b:zI D'≠[1]→r2=zI D':=fun h=>by rw[←hr2,if_neg (fun e=>h (hone.2 e))]
 generalize zI D'=dl at *
 generalize zI N'=nl at *
 clear hr2 hone hN0 hnz
 cbv
 refine cA cg ?_
 cbv
 refine cA cn ?_
 cbv
 refine cA cd ?_
 cbv
 have one_of:∀ (h1:dl.length=1),((dl.getD 0 0).toNat:Int)=1↔dl=[1]:=by
  intro h1
  match dl,h1 with
  | [x],_ =>
   have e1:[x].getD 0 0=x:=rfl
   rw[e1]
   constructor
   ·intro h2
    have:x=1:=UInt32.toNat_inj.1 (by show x.toNat=1;omega)
    rw[this]
   ·intro h2;rw[List.cons.inj h2 |>.1];rfl
 refine zR (fun h=>?_) (fun h=>?_)
 ·have h1:dl.length=1:=om
  have ho:=one_of h1
  cbv
  refine yZ 0 rfl (by omega) ?_
  cbv
  refine zH (fun h2=>?_) (fun h2=>?_)
  ·have h3:=hr2a (ho.1 h2)
   cbv
   refine z4 (fun h4=>?_) (fun h4=>?_)
   ·subst h4
    cbv
    (refine rC ?_;cbv)
    exact⟨zV (by simp [zK]),lR,xC (by rw[h3];rfl),trivial⟩
   ·subst h4
    cbv
    (refine rC ?_;cbv)
    exact⟨zN rfl,lR,xC (by rw[h3];rfl),trivial⟩
  ·have h3:=hr2b (fun e=>h2 (ho.2 e))
   cbv
   refine z4 (fun h4=>?_) (fun h4=>?_)
   ·subst h4
    cbv
    (refine rC ?_;cbv)
    exact⟨zV (by simp [zK]),lR,zP (by rw[h3]),trivial⟩
   ·subst h4
    cbv
    (refine rC ?_;cbv)
    exact⟨zN rfl,lR,zP (by rw[h3]),trivial⟩
 ·have h3:=hr2b (fun e=>h (by rw[e];rfl))
  cbv
  refine z4 (fun h4=>?_) (fun h4=>?_)
  ·subst h4
   cbv
   (refine rC ?_;cbv)
   exact⟨zV (by simp [zK]),lR,zP (by rw[h3]),trivial⟩
  ·subst h4
   cbv
   (refine rC ?_;cbv)
   exact⟨zN rfl,lR,zP (by rw[h3]),trivial⟩
theorem s47 (x:R)(hx:x.sz (2^32)):zE 19 [rv x] (rv (zJ x.q)):=by
 refine sF Tryz.f19 ?_
 have h1:=hx.n
 have h2:=hx.d
 have h3:=bR x.den
 have cu:=s100 x.den (by omega)
 have cq:=s102 x.neg x.num (uY x.den) (by omega) (by omega) (by rw[gL];exact x.d_ne)
 rw[gL] at cq
 have e:mkRat (sgn x.neg (val x.num)) x.d=x.q:=rfl
 rw[e] at cq
 generalize zJ x.q=W at *
 generalize uY x.den=u at *
 obtain⟨neg,num,den⟩:=x
 cbv
 refine zO 8 (by cbv) ?_
 cbv
 refine dA cu ?_
 cbv
 refine dA cq ?_
 cbv
 (refine rC ?_;cbv)
 exact okA
theorem s35 (x:R)(hx:x.num.length<2^40):zE 33 [rv x] (.int .i64 (fun _=>yB x.q)):=by
 refine sF Tryz.f33 ?_
 have c2:=s90 ⟨x.neg,x.num⟩ hx
 have e:Z.v ⟨x.neg,x.num⟩=x.n:=rfl
 rw[e,←zK0] at c2
 generalize yB x.q=s at *
 obtain⟨neg,num,den⟩:=x
 cbv
 refine cA c2 ?_
 cbv
 (refine rC ?_;cbv)
 exact lR
theorem s143 (x:R)(hx:x.sz (2^32)):zE 130 [rv x] (rv (zJ (-x.q))):=by
 refine sF Tryz.f130 ?_
 have ca:=s47 ⟨!x.neg,x.num,x.den⟩ ⟨hx.n,hx.d⟩
 rw[zMC] at ca
 generalize zJ (-x.q)=W at *
 obtain⟨a,b,c⟩:=x
 generalize hna:(!a)=na at *
 cbv
 refine yX rfl (by exact⟨⟨wU hna.symm,lR,lR,trivial⟩,trivial⟩) ca rfl ?_
 cbv
 (refine rC ?_;cbv)
 exact okA
theorem s77 (x y:R)(hx:x.sz (2^31))(hy:y.sz (2^31)):zE 57 [rv x,rv y] (rv (zJ (x.q * y.q))):=by
 refine sF Tryz.f57 ?_
 have h1:=hx.n
 have h2:=hx.d
 have h3:=hy.n
 have h4:=hy.d
 have h7:=bR x.den
 have h8:=bR y.den
 have cux:=s100 x.den (by omega)
 have cuy:=s100 y.den (by omega)
 have cm:=s99 (uY x.den) (uY y.den) (by omega) (by omega)
 have hml:=kW (uY x.den) (uY y.den)
 rw[gL,gL] at cm hml
 have cn:=s99 x.num y.num (by omega) (by omega)
 have hnl:=kW x.num y.num
 have cq:=s102 (x.neg != y.neg) (zI (val x.num * val y.num)) (zI (x.d * y.d)) (by omega) (by omega) (by rw[zM];exact Nat.mul_ne_zero x.d_ne y.d_ne)
 rw[zM,zM,←zBN] at cq
 have e:mkRat (sgn x.neg (val x.num) * sgn y.neg (val y.num)) (x.d * y.d)=x.q * y.q:=(zO6 x y).symm
 rw[e] at cq
 have hb:(x.neg != y.neg)=!decide (x.neg=y.neg):=by cases x.neg <;> cases y.neg <;> rfl
 clear hml hnl e
 generalize zJ (x.q * y.q)=W at *
 generalize zI (x.d * y.d)=M at *
 generalize zI (val x.num * val y.num)=P at *
 generalize uY x.den=ux at *
 generalize uY y.den=uy at *
 obtain⟨a,b,c⟩:=x
 obtain⟨a',b',c'⟩:=y
 simp only at *
 generalize (a != a')=nb at *
 cbv
 refine zO 18 (by cbv) ?_
 cbv
 refine dA cn ?_
 cbv
 refine dA cux ?_
 cbv
 refine dA cuy ?_
 cbv
 refine dA cm ?_
 cbv
 refine yU (by exact⟨wU hb,lR,lR,trivial⟩) cq rfl ?_
 cbv
 (refine rC ?_;cbv)
 exact okA
theorem s69 (x y:R)(hx:x.sz (2^32))(hy:y.sz (2^32)):zE 50 [rv x,rv y] (.bool (fun _=>decide (x=y))):=by
 refine sF Tryz.f50 ?_
 have h1:=hx.n
 have h2:=hx.d
 have h3:=hy.n
 have h4:=hy.d
 have c1:=s130 x.num y.num (by omega) (by omega)
 have c2:=s130 x.den y.den (by omega) (by omega)
 obtain⟨a,b,c⟩:=x
 obtain⟨a',b',c'⟩:=y
 have hO:(decide ((⟨a,b,c⟩:R)=⟨a',b',c'⟩))=(decide (a=a') && (decide (b=b') && decide (c=c'))):=by
  rw[Bool.eq_iff_iff]
  simp only[decide_eq_true_eq,R.mk.injEq,Bool.and_eq_true]
 rw[hO]
 simp only at c1 c2
 generalize decide (b=b')=d1 at *
 generalize decide (c=c')=d2 at *
 clear hO h1 h2 h3 h4 hx hy
 generalize hr:(decide (a=a') && (d1 && d2))=r
 cbv
 refine zR (fun h=>?_) (fun h=>?_)
 ·rw[show decide (a=a')=true from decide_eq_true h,Bool.true_and] at hr
  cbv
  refine cA c1 ?_
  cbv
  refine z4 (fun h'=>?_) (fun h'=>?_)
  ·subst h'
   cbv
   refine cA c2 ?_
   cbv
   (refine rC ?_;cbv)
   exact zV (by rw[←hr];rfl)
  ·subst h'
   cbv
   (refine rC ?_;cbv)
   exact zN (by rw[←hr];rfl)
 ·rw[show decide (a=a')=false from decide_eq_false h,Bool.false_and] at hr
  cbv
  (refine rC ?_;cbv)
  exact zN hr.symm
theorem s129 (x:R)(hx:x.sz (2^32)):zE 109 [rv x] (.bool (fun _=>x.ok)):=by
 refine sF Tryz.f109 ?_
 have cc:=s47 x hx
 have cs:=s69 x (zJ x.q) hx (z8 (hx.fits (by decide)))
 have e:decide (x=zJ x.q)=x.ok:=rfl
 rw[e] at cs
 generalize x.ok=o at *
 generalize zJ x.q=W at *
 obtain⟨a,b,c⟩:=x
 obtain⟨a',b',c'⟩:=W
 cbv
 refine zO 4 (by cbv) ?_
 cbv
 refine dA cc ?_
 cbv
 refine dA cs ?_
 cbv
 (refine rC ?_;cbv)
 exact lR
theorem zJX (z:Int):zJ (z:Rat)=⟨(xF z).neg,(xF z).mag,[]⟩:=by
 unfold zJ xF
 simp only[Rat.num_intCast,Rat.den_intCast,if_true]
 congr
theorem s32 (x:Int)(h1:-9223372036854775808≤x)(h2:x<9223372036854775808):zE 40 [.int .i64 (fun _=>x)] (rv (zJ (x:Rat))):=by
 refine sF Tryz.f40 ?_
 have c1:=s88 x h1 h2
 rw[zJX]
 generalize xF x=y at *
 obtain⟨a,b⟩:=y
 cbv
 refine cA c1 ?_
 cbv
 (refine rC ?_;cbv)
 exact okA
def jD (a b:Int):Rat:=Rat.divInt a b
theorem zKG (a b:Bool)(n m:Nat):mkRat (sgn (a != b) n) m=jD (sgn a n) (sgn b m):=by
 have h1:∀ (z:Int),Rat.divInt z (m:Int)=mkRat z m:=fun z=>Rat.divInt_ofNat z m
 have h2:∀ (z:Int),Rat.divInt z (-(m:Int))=mkRat (-z) m:=fun z=>by rw[Rat.divInt_neg',h1]
 unfold jD
 cases b
 ·rw[show sgn false m=(m:Int) from rfl,h1]
  cases a <;> rfl
 ·rw[show sgn true m=-(m:Int) from rfl,h2]
  cases a
  ·rfl
  ·show mkRat (n:Int) m=mkRat (- -(n:Int)) m
   rw[Int.neg_neg]
theorem s98 (x y:Z)(hx:x.mag.length<2^33)(hy:y.mag.length<2^33)(h0:y.v≠0):zE 134 [zv x,zv y] (.tup [rv (zJ (jD x.v y.v)),.int .i64 (fun _=>0)]):=by
 refine sF Tryz.f134 ?_
 have cs:=s90 y (by omega)
 have hs:uX y.v≠0:=by unfold uX;split <;> (try split) <;> omega
 have hv0:val y.mag≠0:=fun e=>h0 (by unfold Z.v;rw[e,zDI])
 have cq:=s102 (x.neg != y.neg) x.mag y.mag hx hy hv0
 have e:mkRat (sgn (x.neg != y.neg) (val x.mag)) (val y.mag)=jD x.v y.v:=by
  exact zKG _ _ _ _
 rw[e] at cq
 have hb:(x.neg != y.neg)=!decide (x.neg=y.neg):=by cases x.neg <;> cases y.neg <;> rfl
 generalize zJ (jD x.v y.v)=W at *
 generalize uX y.v=s at *
 obtain⟨a,b⟩:=x
 obtain⟨a',b'⟩:=y
 simp only at *
 generalize (a != a')=nb at *
 cbv
 refine cA cs ?_
 cbv
 refine zH (fun h=>absurd h hs) (fun h=>?_)
 cbv
 refine yX rfl (by exact⟨wU hb,lR,lR,trivial⟩) cq rfl ?_
 cbv
 (refine rC ?_;cbv)
 exact okA
theorem s43 (x y:Int)(h1:-9223372036854775808≤x)(h2:x<9223372036854775808)(h3:-9223372036854775808≤y)(h4:y<9223372036854775808)(h0:y≠0):zE 68 [.int .i64 (fun _=>x),.int .i64 (fun _=>y)] (.tup [rv (zJ (jD x y)),.int .i64 (fun _=>0)]):=by
 refine sF Tryz.f68 ?_
 have c1:=s88 x h1 h2
 have c2:=s88 y h3 h4
 have hl1:=eZ x h1 h2
 have hl2:=eZ y h3 h4
 have c3:=s98 (xF x) (xF y) (by omega) (by omega) (by rw[jF];exact h0)
 rw[jF,jF] at c3
 generalize zJ (jD x y)=W at *
 generalize xF x=X at *
 generalize xF y=Y at *
 cbv
 refine cA c1 ?_
 cbv
 refine cA c2 ?_
 cbv
 refine cA c3 ?_
 cbv
 (refine rC ?_;cbv)
 exact okA
theorem s44 (x y:R)(hx:x.sz (2^31))(hy:y.sz (2^31)):zE 52 [rv x,rv y] (rv (zJ (x.q+y.q))):=by
 refine sF Tryz.f52 ?_
 have h1:=hx.n
 have h2:=hx.d
 have h3:=hy.n
 have h4:=hy.d
 have h7:=bR x.den
 have h8:=bR y.den
 have cux:=s100 x.den (by omega)
 have cuy:=s100 y.den (by omega)
 have cx:=s99 x.num (uY y.den) (by omega) (by omega)
 have cy:=s99 y.num (uY x.den) (by omega) (by omega)
 have hxl:=kW x.num (uY y.den)
 have hyl:=kW y.num (uY x.den)
 rw[gL] at cx cy hxl hyl
 have ca:=s101 ⟨x.neg,zI (val x.num * y.d)⟩ ⟨y.neg,zI (val y.num * x.d)⟩ (show (zI (val x.num * y.d)).length<_ by omega) (show (zI (val y.num * x.d)).length<_ by omega)
 have e1:Z.v ⟨x.neg,zI (val x.num * y.d)⟩=x.n * (y.d:Int):=by unfold Z.v R.n;rw[zM,nK]
 have e2:Z.v ⟨y.neg,zI (val y.num * x.d)⟩=y.n * (x.d:Int):=by unfold Z.v R.n;rw[zM,nK]
 rw[e1,e2] at ca
 have cm:=s99 (uY x.den) (uY y.den) (by omega) (by omega)
 have hml:=kW (uY x.den) (uY y.den)
 rw[gL,gL] at cm hml
 have hsl:(xF (x.n * (y.d:Int)+y.n * (x.d:Int))).mag.length<2^33:=by
  have a1:=xE (zI (val x.num * y.d))
  have a2:=xE (zI (val y.num * x.d))
  rw[zM] at a1 a2
  obtain⟨k,hk⟩:∃ k,k=4294967297:=⟨_,rfl⟩
  have b1:=Nat.lt_of_lt_of_le a1 (Nat.pow_le_pow_right xO (show (zI (val x.num * y.d)).length≤k by omega))
  have b2:=Nat.lt_of_lt_of_le a2 (Nat.pow_le_pow_right xO (show (zI (val y.num * x.d)).length≤k by omega))
  have e3:=Int.natAbs_add_le (x.n * (y.d:Int)) (y.n * (x.d:Int))
  rw[Int.natAbs_mul,Int.natAbs_mul,R.n,R.n,vJ,vJ,Int.natAbs_natCast,Int.natAbs_natCast] at e3
  have e4:B ^ k * 2≤B ^ k * B:=Nat.mul_le_mul_left _ (by decide)
  have e5:(zI (x.n * (y.d:Int)+y.n * (x.d:Int)).natAbs).length≤k+1:=z6 (by rw[Nat.pow_succ B k];unfold R.n;generalize B ^ k=P at *;omega)
  show (zI (x.n * (y.d:Int)+y.n * (x.d:Int)).natAbs).length<2^33
  omega
 have cq:=s102 (xF (x.n * (y.d:Int)+y.n * (x.d:Int))).neg (xF (x.n * (y.d:Int)+y.n * (x.d:Int))).mag (zI (x.d * y.d)) hsl (by omega) (by rw[zM];exact Nat.mul_ne_zero x.d_ne y.d_ne)
 have e6:sgn (xF (x.n * (y.d:Int)+y.n * (x.d:Int))).neg (val (xF (x.n * (y.d:Int)+y.n * (x.d:Int))).mag)=x.n * (y.d:Int)+y.n * (x.d:Int):=jF _
 rw[e6,zM,←zMD] at cq
 clear e6 hsl hml e1 e2 hxl hyl
 generalize zJ (x.q+y.q)=W at *
 generalize zI (x.d * y.d)=M at *
 generalize xF (x.n * (y.d:Int)+y.n * (x.d:Int))=S at *
 generalize zI (val x.num * y.d)=W1 at *
 generalize zI (val y.num * x.d)=W2 at *
 generalize uY x.den=ux at *
 generalize uY y.den=uy at *
 obtain⟨a,b,c⟩:=x
 obtain⟨a',b',c'⟩:=y
 obtain⟨s1,s2⟩:=S
 cbv
 refine u7 10 (by cbv) (by cbv) ?_
 cbv
 refine dA cuy ?_
 cbv
 refine dA cx ?_
 cbv
 refine u7 10 (by cbv) (by cbv) ?_
 cbv
 refine dA cux ?_
 cbv
 refine dA cy ?_
 cbv
 refine cA ca ?_
 cbv
 refine zO 12 (by cbv) ?_
 cbv
 refine dA cux ?_
 cbv
 refine dA cuy ?_
 cbv
 refine dA cm ?_
 cbv
 refine dA cq ?_
 cbv
 (refine rC ?_;cbv)
 exact okA
theorem s93 (x y:R)(hx:x.sz (2^31))(hy:y.sz (2^31)):zE 87 [rv x,rv y] (rv (zJ (x.q - y.q))):=by
 refine sF Tryz.f87 ?_
 have cn:=s143 y (hy.mono (by omega))
 have ca:=s44 x (zJ (-y.q)) hx (z8 (aY (hy.fits (by decide))))
 rw[z9,←Rat.sub_eq_add_neg] at ca
 generalize zJ (x.q - y.q)=W at *
 generalize zJ (-y.q)=V at *
 obtain⟨a,b,c⟩:=x
 obtain⟨a',b',c'⟩:=y
 cbv
 refine zO 4 (by cbv) ?_
 cbv
 refine dA cn ?_
 cbv
 refine dA ca ?_
 cbv
 (refine rC ?_;cbv)
 exact okA
theorem zOM (a b:Rat):yB (a - b)=kL a b:=by
 unfold yB kL
 have h1:a - b<0↔a<b:=by grind
 have h2:0<a - b↔b<a:=by grind
 simp only[h1,h2]
theorem s42 (x y:R)(hx:x.sz (2^31))(hy:y.sz (2^31)):zE 54 [rv x,rv y] (.int .i64 (fun _=>kL x.q y.q)):=by
 refine sF Tryz.f54 ?_
 have ca:=s93 x y hx hy
 have hf:=(j6 (hx.fits (by decide)) (hy.fits (by decide))).lnum
 have cs:=s35 (zJ (x.q - y.q)) (Nat.lt_of_le_of_lt hf (by omega))
 rw[z9,zOM] at cs
 clear hf
 generalize kL x.q y.q=C at *
 generalize zJ (x.q - y.q)=W at *
 cbv
 refine cA ca ?_
 cbv
 refine cA cs ?_
 cbv
 (refine rC ?_;cbv)
 exact lR
def enc {α:Type} (p:α→List PV) (l:List α):List (List D):=l.map fun a=>yW (p a)
section
variable {α:Type} {p:α→List PV}
theorem zA (p:α→List PV)(l:List α):(enc p l).length=l.length:=by simp [enc]
theorem xN {n:Nat}(hn:∀ a,(p a).length=n)(l:List α):Wid n (fun _=>enc p l):=⟨fun e he=>by
 simp only[enc,List.mem_map] at he;obtain⟨x,_,rfl⟩:=he;rw[v7,hn]⟩
theorem yH (p:α→List PV)(l m:List α):enc p l++enc p m=enc p (l++m):=by simp [enc]
theorem w5 (p:α→List PV)(l:List α)(n:Nat)(a:α):(enc p l).set n (yW (p a))=enc p (l.set n a):=by simp [enc,List.map_set]
theorem y5 {n:Nat}{l:List α}{k:Int}{K:List PV→Prop}(j:Nat)(hk:k=(j:Int))(hj:j<l.length)(hf:∀ a,yT v4 (p a)=true)(hn:∀ a,(p a).length=n)
  (hK:∀ a,l[j]?=some a→K (p a)):IdxOk n (fun _=>enc p l) (fun _=>k) K :=
 zLK j hk (p l[j]) (hf _) (hn _) (by simp [enc,hj]) (hK _ (by simp [hj]))
theorem wY {n:Nat}{l:List α}{i:Nat}{K:List PV→Prop}(j:Nat)(hk:i=j)(hj:j<l.length)(hf:∀ a,yT v4 (p a)=true)(hn:∀ a,(p a).length=n)
  (hK:∀ a,l[j]?=some a→K (p a)):ElOk n (fun _=>enc p l) (fun _=>i) K :=
 zPC j hk (p l[j]) (hf _) (hn _) (by simp [enc,hj]) (hK _ (by simp [hj]))
end
structure A where
 ts:List (Int × R)
 c:R
structure F where
 ts:List (Int × Rat)
 c:Rat
theorem F.ext' {f g:F}(h1:f.ts=g.ts)(h2:f.c=g.c):f=g:=by cases f;cases g;simp_all
def tq (l:List (Int × R)):List (Int × Rat):=l.map fun t=>(t.1,t.2.q)
def tR (l:List (Int × Rat)):List (Int × R):=l.map fun t=>(t.1,zJ t.2)
def A.f (a:A):F:=⟨tq a.ts,a.c.q⟩
def fA (f:F):A:=⟨tR f.ts,zJ f.c⟩
theorem zFK (l:List (Int × Rat)):tq (tR l)=l:=by simp [tq,tR,z9,Function.comp_def]
theorem uK (f:F):(fA f).f=f:=by simp [A.f,fA,zFK,z9]
def rc (x:R):List PV:=[.bool (fun _=>x.neg),nat x.num,nat x.den]
def tc (t:Int × R):List PV:=[.int .i64 (fun _=>t.1),.bool (fun _=>t.2.neg),nat t.2.num,nat t.2.den]
abbrev tsv (l:List (Int × R)):PV:=.sl (fun _=>enc tc l)
def ac (f:A):List PV:=[tsv f.ts,.bool (fun _=>f.c.neg),nat f.c.num,nat f.c.den]
abbrev av (f:A):PV:=.agg [tsv f.ts,.bool (fun _=>f.c.neg),nat f.c.num,nat f.c.den]
abbrev fv (f:F):PV:=av (fA f)
theorem jS (a:R):yT v4 (rc a)=true:=rfl
theorem dW (a:R):(rc a).length=3:=rfl
theorem x7 (a:Int × R):yT v4 (tc a)=true:=rfl
theorem x5 (a:Int × R):(tc a).length=4:=rfl
theorem jA (a:A):yT v4 (ac a)=true:=rfl
theorem dE (a:A):(ac a).length=4:=rfl
structure Tsz (k:Nat) (l:List (Int × R)):Prop where
 len:l.length<2^38
 sz:∀ t,t∈l→t.2.sz k
structure A.sz (a:A) (k:Nat):Prop where
 t:Tsz k a.ts
 c:a.c.sz k
theorem Tsz.mono {k m:Nat}{l}(h:Tsz k l)(hm:k≤m):Tsz m l:=⟨h.len,fun t ht=>(h.sz t ht).mono hm⟩
theorem A.sz.mono {k m:Nat}{a:A}(h:a.sz k)(hm:k≤m):a.sz m:=⟨h.t.mono hm,h.c.mono hm⟩
structure Tfit (k:Nat) (l:List (Int × Rat)):Prop where
 len:l.length<2^38
 fit:∀ t,t∈l→Fits k t.2
structure F.fit (f:F) (k:Nat):Prop where
 t:Tfit k f.ts
 c:Fits k f.c
theorem Tfit.mono {k m:Nat}{l}(h:Tfit k l)(hm:k≤m):Tfit m l:=⟨h.len,fun t ht=>(h.fit t ht).mono hm⟩
theorem F.fit.mono {k m:Nat}{a:F}(h:a.fit k)(hm:k≤m):a.fit m:=⟨h.t.mono hm,h.c.mono hm⟩
theorem Tfit.tR {k:Nat}{l}(h:Tfit k l):Tsz k (tR l):=⟨by simpa [Go.Proofs.YtgcpehdkdnkgeaaGreat.tR] using h.len,fun t ht=>by
 simp only[Go.Proofs.YtgcpehdkdnkgeaaGreat.tR,List.mem_map] at ht
 obtain⟨u,hu,rfl⟩:=ht
 exact z8 (h.fit u hu)⟩
theorem F.fit.fA {k:Nat}{f:F}(h:f.fit k):(fA f).sz k:=⟨h.t.tR,z8 h.c⟩
theorem Tsz.fit {k:Nat}{l}(h:Tsz k l)(hk:1≤k):Tfit k (tq l):=⟨by simpa [tq] using h.len,fun t ht=>by
 simp only[tq,List.mem_map] at ht
 obtain⟨u,hu,rfl⟩:=ht
 exact (h.sz u hu).fits hk⟩
theorem A.sz.fit {k:Nat}{a:A}(h:a.sz k)(hk:1≤k):a.f.fit k:=⟨h.t.fit hk,h.c.fits hk⟩
def vT (vars:Int):Int→List (Int × R)→Bool
 | _,[]=>true
 | p,t::r=>decide (0≤t.1) && decide (t.1<vars) && decide (p<t.1) && decide (t.2.q≠0) && t.2.ok && vT vars t.1 r
def A.valid (vars:Int) (a:A):Bool:=vT vars (-1) a.ts && a.c.ok
structure Cn (l:List (Int × Rat)):Prop where
 s:l.Pairwise (fun a b=>a.1<b.1)
 n:∀ t,t∈l→t.2≠0
theorem Cn.nil:Cn []:=⟨.nil,by simp⟩
theorem Cn.tail {t l}(h:Cn (t::l)):Cn l:=⟨(List.pairwise_cons.1 h.s).2,fun u hu=>h.n u (List.mem_cons_of_mem _ hu)⟩
theorem Cn.lt {t l}(h:Cn (t::l)):∀ u,u∈l→t.1<u.1:=(List.pairwise_cons.1 h.s).1
theorem Cn.hd {t l}(h:Cn (t::l)):t.2≠0:=h.n t List.mem_cons_self
theorem Cn.cons {t l}(h:Cn l)(h1:∀ u,u∈l→t.1<u.1)(h2:t.2≠0):Cn (t::l) :=
 ⟨List.pairwise_cons.2 ⟨h1,h.s⟩,fun u hu=>by rcases List.mem_cons.1 hu with rfl | hu <;> first | exact h2 | exact h.n u hu⟩
def co:List (Int × Rat)→Int→Rat
 | [],_=>0
 | t::r,v=>(if t.1=v then t.2 else 0)+co r v
theorem l9 {l:List (Int × Rat)}{v:Int}(h:∀ t,t∈l→t.1≠v):co l v=0:=by
 induction l with
 | nil=>rfl
 | cons t r ih =>
  simp only[co,if_neg (h t List.mem_cons_self),ih fun u hu=>h u (List.mem_cons_of_mem _ hu)]
  grind
theorem qX {t:Int × Rat}{l}(h:Cn (t::l)):co (t::l) t.1=t.2:=by
 simp only[co,if_true,l9 fun u hu=>(Int.ne_of_lt (h.lt u hu)).symm]
 grind
theorem Cn.ext:∀ {l m:List (Int × Rat)},Cn l→Cn m→(∀ v,co l v=co m v)→l=m
 | [],[],_,_,_=>rfl
 | [],b::m,_,hm,h=>by
  have:=h b.1
  rw[qX hm] at this
  exact absurd this.symm hm.hd
 | a::l,[],hl,_,h=>by
  have:=h a.1
  rw[qX hl] at this
  exact absurd this hl.hd
 | a::l,b::m,hl,hm,h=>by
  have h1:a.1=b.1:=by
   rcases Int.lt_trichotomy a.1 b.1 with c | c | c
   ·have:=h a.1
    rw[qX hl,l9 (l:=b::m) (fun t ht=>by
     rcases List.mem_cons.1 ht with rfl | ht
     ·omega
     ·have:=hm.lt t ht;omega)] at this
    exact absurd this hl.hd
   ·exact c
   ·have:=h b.1
    rw[qX hm,l9 (l:=a::l) (fun t ht=>by
     rcases List.mem_cons.1 ht with rfl | ht
     ·omega
     ·have:=hl.lt t ht;omega)] at this
    exact absurd this.symm hm.hd
  have h2:a.2=b.2:=by
   have:=h a.1
   rw[qX hl,h1,qX hm] at this
   exact this
  have h3:a=b:=Prod.ext h1 h2
  subst h3
  congr 1
  refine Cn.ext hl.tail hm.tail fun v=>?_
  have:=h v
  simp only[co] at this
  grind
def pc (v:Int) (q:Rat) (r:List (Int × Rat)):List (Int × Rat):=if q=0 then r else (v,q)::r
theorem rU (v:Int)(q:Rat)(r)(w:Int):co (pc v q r) w=(if v=w then q else 0)+co r w:=by
 unfold pc
 split
 ·rename_i h;rw[h];split <;> grind
 ·rfl
theorem Cn.pc {v:Int}{q:Rat}{r}(h:Cn r)(h1:∀ u,u∈r→v<u.1):Cn (pc v q r):=by
 unfold Go.Proofs.YtgcpehdkdnkgeaaGreat.pc
 split
 ·exact h
 ·exact h.cons h1 (by assumption)
theorem vL {v:Int}{q:Rat}{r u}(h:u∈pc v q r):u=(v,q)∨u∈r:=by
 unfold pc at h
 split at h
 ·exact .inr h
 ·exact List.mem_cons.1 h
def mrg (c:Rat):List (Int × Rat)→List (Int × Rat)→List (Int × Rat)
 | [],[]=>[]
 | a::aa,[]=>pc a.1 a.2 (mrg c aa [])
 | [],b::bb=>pc b.1 (b.2 * c) (mrg c [] bb)
 | a::aa,b::bb=>if a.1<b.1 then pc a.1 a.2 (mrg c aa (b::bb)) else if b.1<a.1 then pc b.1 (b.2 * c) (mrg c (a::aa) bb) else pc a.1 (a.2+b.2 * c) (mrg c aa bb)
termination_by a b=>a.length+b.length
theorem jN (c:Rat):∀ (a b:List (Int × Rat)) (v:Int),co (mrg c a b) v=co a v+co b v * c
 | [],[],v=>by rw[mrg];simp only[co];grind
 | a::aa,[],v=>by rw[mrg,rU,jN c aa []];simp only[co];grind
 | [],b::bb,v=>by rw[mrg,rU,jN c [] bb];simp only[co];split <;> grind
 | a::aa,b::bb,v=>by
  rw[mrg]
  split
  ·rw[rU,jN c aa (b::bb)];simp only[co];grind
  ·split
   ·rw[rU,jN c (a::aa) bb];simp only[co];split <;> grind
   ·have:a.1=b.1:=by omega
    rw[rU,jN c aa bb];simp only[co,this];split <;> grind
termination_by a b=>a.length+b.length
theorem kU {c:Rat}:∀ {a b:List (Int × Rat)} {u},u∈mrg c a b→(∃ t,t∈a∧t.1=u.1)∨(∃ t,t∈b∧t.1=u.1)
 | [],[],u,h=>by rw[mrg] at h;exact absurd h (by simp)
 | a::aa,[],u,h=>by
  rw[mrg] at h
  rcases vL h with rfl | h
  ·exact .inl ⟨a,List.mem_cons_self,rfl⟩
  ·rcases kU h with ⟨t,h1,h2⟩ | ⟨t,h1,h2⟩
   ·exact .inl ⟨t,List.mem_cons_of_mem _ h1,h2⟩
   ·exact .inr ⟨t,h1,h2⟩
 | [],b::bb,u,h=>by
  rw[mrg] at h
  rcases vL h with rfl | h
  ·exact .inr ⟨b,List.mem_cons_self,rfl⟩
  ·rcases kU h with ⟨t,h1,h2⟩ | ⟨t,h1,h2⟩
   ·exact .inl ⟨t,h1,h2⟩
   ·exact .inr ⟨t,List.mem_cons_of_mem _ h1,h2⟩
 | a::aa,b::bb,u,h=>by
  rw[mrg] at h
  split at h
  ·rcases vL h with rfl | h
   ·exact .inl ⟨a,List.mem_cons_self,rfl⟩
   ·rcases kU h with ⟨t,h1,h2⟩ | ⟨t,h1,h2⟩
    ·exact .inl ⟨t,List.mem_cons_of_mem _ h1,h2⟩
    ·exact .inr ⟨t,h1,h2⟩
  ·split at h
   ·rcases vL h with rfl | h
    ·exact .inr ⟨b,List.mem_cons_self,rfl⟩
    ·rcases kU h with ⟨t,h1,h2⟩ | ⟨t,h1,h2⟩
     ·exact .inl ⟨t,h1,h2⟩
     ·exact .inr ⟨t,List.mem_cons_of_mem _ h1,h2⟩
   ·rcases vL h with rfl | h
    ·exact .inl ⟨a,List.mem_cons_self,rfl⟩
    ·rcases kU h with ⟨t,h1,h2⟩ | ⟨t,h1,h2⟩
     ·exact .inl ⟨t,List.mem_cons_of_mem _ h1,h2⟩
     ·exact .inr ⟨t,List.mem_cons_of_mem _ h1,h2⟩
termination_by a b=>a.length+b.length
theorem Cn.mrg {c:Rat}:∀ {a b:List (Int × Rat)},Cn a→Cn b→Cn (mrg c a b)
 | [],[],_,_=>by rw[Go.Proofs.YtgcpehdkdnkgeaaGreat.mrg];exact Cn.nil
 | a::aa,[],ha,hb=>by
  rw[Go.Proofs.YtgcpehdkdnkgeaaGreat.mrg]
  refine Cn.pc (Cn.mrg ha.tail hb) fun u hu=>?_
  rcases kU hu with ⟨t,h1,h2⟩ | ⟨t,h1,h2⟩
  ·rw[←h2];exact ha.lt t h1
  ·exact absurd h1 (by simp)
 | [],b::bb,ha,hb=>by
  rw[Go.Proofs.YtgcpehdkdnkgeaaGreat.mrg]
  refine Cn.pc (Cn.mrg ha hb.tail) fun u hu=>?_
  rcases kU hu with ⟨t,h1,h2⟩ | ⟨t,h1,h2⟩
  ·exact absurd h1 (by simp)
  ·rw[←h2];exact hb.lt t h1
 | a::aa,b::bb,ha,hb=>by
  rw[Go.Proofs.YtgcpehdkdnkgeaaGreat.mrg]
  split
  ·rename_i hlt
   refine Cn.pc (Cn.mrg ha.tail hb) fun u hu=>?_
   rcases kU hu with ⟨t,h1,h2⟩ | ⟨t,h1,h2⟩
   ·rw[←h2];exact ha.lt t h1
   ·rw[←h2]
    rcases List.mem_cons.1 h1 with rfl | h1
    ·exact hlt
    ·exact Int.lt_trans hlt (hb.lt t h1)
  ·split
   ·rename_i _ hlt
    refine Cn.pc (Cn.mrg ha hb.tail) fun u hu=>?_
    rcases kU hu with ⟨t,h1,h2⟩ | ⟨t,h1,h2⟩
    ·rw[←h2]
     rcases List.mem_cons.1 h1 with rfl | h1
     ·exact hlt
     ·exact Int.lt_trans hlt (ha.lt t h1)
    ·rw[←h2];exact hb.lt t h1
   ·have:a.1=b.1:=by omega
    refine Cn.pc (Cn.mrg ha.tail hb.tail) fun u hu=>?_
    rcases kU hu with ⟨t,h1,h2⟩ | ⟨t,h1,h2⟩
    ·rw[←h2];exact ha.lt t h1
    ·rw[←h2,this];exact hb.lt t h1
termination_by a b=>a.length+b.length
theorem dZ (v:Int)(q:Rat)(r):(pc v q r).length≤r.length+1:=by unfold pc;split <;> simp
theorem gT (c:Rat):∀ (a b:List (Int × Rat)),(mrg c a b).length≤a.length+b.length
 | [],[]=>by rw[mrg];simp
 | a::aa,[]=>by rw[mrg];have:=dZ a.1 a.2 (mrg c aa []);have:=gT c aa [];simp only[List.length_cons] at *;omega
 | [],b::bb=>by rw[mrg];have:=dZ b.1 (b.2 * c) (mrg c [] bb);have:=gT c [] bb;simp only[List.length_cons] at *;omega
 | a::aa,b::bb=>by
  rw[mrg]
  split
  ·have:=dZ a.1 a.2 (mrg c aa (b::bb));have:=gT c aa (b::bb);simp only[List.length_cons] at *;omega
  ·split
   ·have:=dZ b.1 (b.2 * c) (mrg c (a::aa) bb);have:=gT c (a::aa) bb;simp only[List.length_cons] at *;omega
   ·have:=dZ a.1 (a.2+b.2 * c) (mrg c aa bb);have:=gT c aa bb;simp only[List.length_cons] at *;omega
termination_by a b=>a.length+b.length
def F.merge (f g:F) (c:Rat):F:=⟨mrg c f.ts g.ts,f.c+g.c * c⟩
def F.add (f g:F):F:=f.merge g 1
def F.sub (f g:F):F:=f.merge g (-1)
def F.scale (f:F) (c:Rat):F:=F.merge ⟨[],0⟩ f c
theorem sP {c:Rat}{k m:Nat}(hc:Fits m c):∀ {a b:List (Int × Rat)},(∀ t,t∈a→Fits k t.2)→(∀ t,t∈b→Fits k t.2)→∀ u,u∈mrg c a b→Fits (2 * k+m+1) u.2
 | [],[],_,_,u,h=>by rw[mrg] at h;exact absurd h (by simp)
 | a::aa,[],ha,hb,u,h=>by
  rw[mrg] at h
  rcases vL h with rfl | h
  ·exact (ha a List.mem_cons_self).mono (by omega)
  ·exact sP hc (fun t ht=>ha t (List.mem_cons_of_mem _ ht)) hb u h
 | [],b::bb,ha,hb,u,h=>by
  rw[mrg] at h
  rcases vL h with rfl | h
  ·exact (wB (hb b List.mem_cons_self) hc).mono (by omega)
  ·exact sP hc ha (fun t ht=>hb t (List.mem_cons_of_mem _ ht)) u h
 | a::aa,b::bb,ha,hb,u,h=>by
  rw[mrg] at h
  split at h
  ·rcases vL h with rfl | h
   ·exact (ha a List.mem_cons_self).mono (by omega)
   ·exact sP hc (fun t ht=>ha t (List.mem_cons_of_mem _ ht)) hb u h
  ·split at h
   ·rcases vL h with rfl | h
    ·exact (wB (hb b List.mem_cons_self) hc).mono (by omega)
    ·exact sP hc ha (fun t ht=>hb t (List.mem_cons_of_mem _ ht)) u h
   ·rcases vL h with rfl | h
    ·exact (vI (ha a List.mem_cons_self) (wB (hb b List.mem_cons_self) hc)).mono (by omega)
    ·exact sP hc (fun t ht=>ha t (List.mem_cons_of_mem _ ht)) (fun t ht=>hb t (List.mem_cons_of_mem _ ht)) u h
termination_by a b=>a.length+b.length
theorem okQ {p:Prop}(h:p:=by (try simp only[zA,zK] at *) <;> (try dsimp only [zG] at *) <;> omega):p:=h
theorem aO {t base x d ps K n b z xs}(ht:ty t=.sli n b z){m o len els}(hK:K ⟨uG (vW (scr m) ps.tmps) d (.osl m n (fun _=>0) (fun _=>(els ()).length+(xs ()).length)),xL (scr m) (wR ps.objs m)++[(m,.arr n (fun _=>els ()++xs ()))]⟩)(hb:ev (zB ps.tmps) base=.osl m n o len:=by exact rfl)(ho:yG ps.objs m=some (.arr n els):=by exact rfl)(ho0:o ()=0:=by exact rfl)(hl:len ()=(els ()).length:=by simp [zA,zQ])(hx:ev (zB ps.tmps) x=.sl xs:=by exact rfl)(hw:Wid n xs:=by exact⟨by simp [zQ,yW]⟩)(hr:Room (fun _=>(((els ()).length+(xs ()).length:Nat):Int)) b:=by exact z7 (by simp [zQ,zA] <;> omega) (by simp [zQ,zA] at *;(try dsimp only [zG] at *);omega))(hf:yR m ⟨vW (scr m) ps.tmps,xL (scr m) (wR ps.objs m)⟩=true:=by exact rfl):AppOk t base x (some d) ps K:=zEL ht hb ho ho0 hl hx hw hr hf hK
end Go.Proofs.YtgcpehdkdnkgeaaGreat
