/- A part of the proof: RqB, ReA, ReB, ReC. -/
import Derived.Test.YtaeaffgjdcigoaaGreatG17
set_option linter.all false
namespace Go.Proofs.YtaeaffgjdcigoaaGreat
open Go
set_option maxRecDepth 100000
def OL (x:Z)(hx:x.mag.length<2^38):zD 227 [zv x] (rv (zG (x.v:Rat))):=by
 refine sF Tryz.f227 ?_;have cq:=Rx x.neg x.mag [1] hx (by simp) (by decide);have e:mkRat (sgn x.neg (val x.mag)) (val [1])=(x.v:Rat):=by have:=Rat.mkRat_self (x.v:Rat);rw[Rat.num_intCast,Rat.den_intCast] at this;exact this
 rw[e] at cq;generalize zG (x.v:Rat)=W at *;obtain⟨neg,mag⟩:=x;cbv;refine zM 6 (by cbv) ?_;cbv;refine dA Lt ?_;cbv;refine dA cq ?_;cbv;exact rA
def Wz (x:Int)(h1:-9223372036854775808<=x)(h2:x<9223372036854775808):(x8 x).mag.length<=2:=by refine yF ?_;grind [B]
def C5 (x:Int)(h1:-9223372036854775808<=x)(h2:x<9223372036854775808):zD 187 [iV x] (rv (zG (x:Rat))):=by refine sF Tryz.f187 ?_;have c1:=OK x h1 h2;have hl:=Wz x h1 h2;have c2:=OL (x8 x) oM;rw[dO] at c2;generalize zG (x:Rat)=W at *;generalize x8 x=y at *;cbv;refine cA c1 ?_;cbv;refine cA c2 ?_;cbv;exact rA
def Mu (x:R)(hx:x.num.length<2^40):zD 233 [rv x] (zv (x8 x.n)):=by refine sF Tryz.f233 ?_;have c1:=C2 x.neg x.num hx;have e:sgn x.neg (val x.num)=x.n:=rfl;rw[e] at c1;generalize x8 x.n=W at *;obtain⟨neg,num,den⟩:=x;cbv;refine cA c1 ?_;cbv;exact rA
def BK (x:R):(x8 x.n).mag.length<=x.num.length:=by refine yF ?_;rw[R.n,qH];exact x5 _
def s86 (x:R)(hx:x.num.length<2^40):zD 189 [rv x] (iV (z3 x.q)):=by refine sF Tryz.f189 ?_;have c1:=Mu x hx;have hl:=BK x;have c2:=Mv (x8 x.n) oM;rw[dO,<-CG] at c2;generalize z3 x.q=s at *;generalize x8 x.n=W at *;obtain⟨neg,num,den⟩:=x;cbv;refine cA c1 ?_;cbv;refine cA c2 ?_;cbv;exact rA
def Ly (x y:R)(hx:x.sz (2^34))(hy:y.sz (2^34)):zD 243 [rv x,rv y] (.tup [zv (x8 (x.n*y.d)),zv (x8 (y.n*x.d))]):=by
 refine sF Tryz.f243 ?_;have h1:=hx.n;have h2:=hx.d;have h3:=hy.n;have h4:=hy.d;have h5:=gX x.den;have h6:=gX y.den;have h7:=BK x;have h8:=BK y;have cux:=HK x oM;have cuy:=HK y oM;have csx:=Mu x oM;have csy:=Mu y oM;have cm1:=Ls (x8 x.n) ⟨false,wT y.den⟩ oM (show (wT y.den).length<_ by omega);have cm2:=Ls (x8 y.n) ⟨false,wT x.den⟩ oM (show (wT x.den).length<_ by omega);have e1:Z.v ⟨false,wT y.den⟩=(y.d:Int):=by rw[<-jR];rfl
 have e2:Z.v ⟨false,wT x.den⟩=(x.d:Int):=by rw[<-jR];rfl
 rw[dO,e1] at cm1;rw[dO,e2] at cm2;generalize x8 (x.n*(y.d:Int))=W1 at *;generalize x8 (y.n*(x.d:Int))=W2 at *;generalize x8 x.n=X at *;generalize x8 y.n=Y at *;generalize wT x.den=ux at *;generalize wT y.den=uy at *;obtain⟨a,b,c⟩:=x;obtain⟨a',b',c'⟩:=y;cbv;refine zM 4 (by cbv) ?_;cbv;refine dA cux ?_;cbv;refine dA cuy ?_;cbv;refine zM 10 (by cbv) ?_;cbv;refine dA csx ?_;cbv;refine dA cm1 ?_;cbv;refine dA csy ?_;cbv;refine dA cm2 ?_;cbv;exact rA
def lU (x y:R)(hx:x.sz (2^34))(hy:y.sz (2^34)):(x8 (x.n*(y.d:Int))).mag.length<=2^36:=by have h1:=hx.n;have h4:=hy.d;have h6:=gX y.den;refine vR (yF (k:=x.num.length+(wT y.den).length) ?_) oM;rw[eV,R.n,qH,Yk,<-jR];exact x7 (x5 _) (x5 _)
def OJ (x y:R)(hx:x.sz (2^34))(hy:y.sz (2^34)):zD 194 [rv x,rv y] (iV (wK x.q y.q)):=by
 refine sF Tryz.f194 ?_;have h1:=hx.n;have h3:=hy.n;have h5:=lU x y hx hy;have h6:=lU y x hy hx;have cx:=s86 x oM;have cy:=s86 y oM;have cc:=Ly x y hx hy;have ci:=OE _ _ (xF h5 oM) (xF h6 oM);rw[dO,dO,<-Nx] at ci;have k1:z3 x.q<z3 y.q->wK x.q y.q=-1:=by grind [z3,wK]
 have k2:z3 y.q<z3 x.q->wK x.q y.q=1:=by grind [z3,wK]
 generalize wK x.q y.q=C at *;generalize z3 x.q=s at *;generalize z3 y.q=t at *;generalize x8 (x.n*(y.d:Int))=W1 at *;generalize x8 (y.n*(x.d:Int))=W2 at *;obtain⟨a,b,c⟩:=x;obtain⟨a',b',c'⟩:=y;obtain⟨p1,p2⟩:=W1;obtain⟨q1,q2⟩:=W2;cbv;refine zM 4 (by cbv) ?_;cbv;refine dA cx ?_;cbv;refine dA cy ?_;cbv;refine zE (λh=>?_) (λh=>?_);{cbv;refine cA cc ?_;cbv;refine cA ci ?_;cbv;exact rA}
 ·cbv;refine zE (λh'=>?_) (λh'=>?_)
  ·cbv
   (refine rC ?_;cbv)
   exact zB (k1 h').symm
  ·cbv
   (refine rC ?_;cbv)
   exact zB (k2 oM).symm
def Mw (x y:R)(hx:x.sz (2^34))(hy:y.sz (2^34)):zD 266 [rv x,rv y] (rv (zG (x.q+y.q))):=by
 refine sF Tryz.f266 ?_;have h1:=hx.n;have h2:=hx.d;have h3:=hy.n;have h4:=hy.d;have h5:=lU x y hx hy;have h6:=lU y x hy hx;have h7:=gX x.den;have h8:=gX y.den;have cc:=Ly x y hx hy;have ca:=OH _ _ (xF h5 oM) (xF h6 oM);rw[dO,dO] at ca;have cux:=HK x oM;have cuy:=HK y oM;have cm:=Rw (wT x.den) (wT y.den) oM oM;have hml:=f9 (wT x.den) (wT y.den);rw[jR,jR] at cm hml;have hsl:(x8 (x.n*(y.d:Int)+y.n*(x.d:Int))).mag.length<2^38:=by
  (obtain⟨k,hk⟩:∃ k,k=68719476736:=⟨_,rfl⟩;have h5':(x8 (x.n*(y.d:Int))).mag.length<=k:=by omega);have h6':(x8 (y.n*(x.d:Int))).mag.length<=k:=by omega
  (have e1:(x.n*(y.d:Int)).natAbs<B^k:=by have:=x5 (x8 (x.n*(y.d:Int))).mag;rw[show val (x8 (x.n*(y.d:Int))).mag=(x.n*(y.d:Int)).natAbs from zR _] at this;exact uR this (dH w8 h5'));have e2:(y.n*(x.d:Int)).natAbs<B^k:=by have:=x5 (x8 (y.n*(x.d:Int))).mag;rw[show val (x8 (y.n*(x.d:Int))).mag=(y.n*(x.d:Int)).natAbs from zR _] at this;exact uR this (dH w8 h6')
  have e3:=Int.natAbs_add_le (x.n*(y.d:Int)) (y.n*(x.d:Int));have e4:B^k*2<=B^k*B:=vQ _ (by decide);have e5:(zJ (x.n*(y.d:Int)+y.n*(x.d:Int)).natAbs).length<=k+1:=yF (by rw[uC B k];omega);show (zJ (x.n*(y.d:Int)+y.n*(x.d:Int)).natAbs).length<2^38;omega
 have cq:=Rx (x8 (x.n*(y.d:Int)+y.n*(x.d:Int))).neg (x8 (x.n*(y.d:Int)+y.n*(x.d:Int))).mag (zJ (x.d*y.d)) hsl oM (by rw[zR];exact Vw x.d_ne y.d_ne);have e6:sgn (x8 (x.n*(y.d:Int)+y.n*(x.d:Int))).neg (val (x8 (x.n*(y.d:Int)+y.n*(x.d:Int))).mag)=x.n*(y.d:Int)+y.n*(x.d:Int):=dO _;rw[e6,zR,<-Bo] at cq;clear e6 hsl hml h5 h6;generalize zG (x.q+y.q)=W at *;generalize zJ (x.d*y.d)=M at *;generalize x8 (x.n*(y.d:Int)+y.n*(x.d:Int))=S at *;generalize x8 (x.n*(y.d:Int))=W1 at *;generalize x8 (y.n*(x.d:Int))=W2 at *;generalize wT x.den=ux at *;generalize wT y.den=uy at *;obtain⟨a,b,c⟩:=x;obtain⟨a',b',c'⟩:=y;obtain⟨p1,p2⟩:=W1;obtain⟨q1,q2⟩:=W2;obtain⟨s1,s2⟩:=S;cbv;refine cA cc ?_;cbv;refine cA ca ?_;cbv;refine zM 10 (by cbv) ?_;cbv;refine dA cux ?_;cbv;refine dA cuy ?_;cbv;refine dA cm ?_;cbv;refine dA cq ?_;cbv;exact rA
def OI (x y:R)(hx:x.sz (2^34))(hy:y.sz (2^34)):zD 297 [rv x,rv y] (rv (zG (x.q-y.q))):=by refine sF Tryz.f297 ?_;have ca:=Mw x ⟨!y.neg,y.num,y.den⟩ hx ⟨hy.n,hy.d⟩;rw[Bl,<-Rat.sub_eq_add_neg] at ca;generalize zG (x.q-y.q)=W at *;obtain⟨a,b,c⟩:=x;obtain⟨a',b',c'⟩:=y;generalize hna:(!a')=na at *;cbv;refine yP rfl (by exact⟨okA,⟨vM hna.symm,lR,lR,trivial⟩,trivial⟩) ca rfl ?_;cbv;exact rA
def Lw (x y:R)(hx:x.sz (2^34))(hy:y.sz (2^34)):zD 267 [rv x,rv y] (rv (zG (x.q*y.q))):=by
 refine sF Tryz.f267 ?_;have h1:=hx.n;have h2:=hx.d;have h3:=hy.n;have h4:=hy.d;have h7:=gX x.den;have h8:=gX y.den;have cux:=HK x oM;have cuy:=HK y oM;have cm:=Rw (wT x.den) (wT y.den) oM oM;have hml:=f9 (wT x.den) (wT y.den);rw[jR,jR] at cm hml;have cn:=Rw x.num y.num oM oM;have hnl:=f9 x.num y.num;have cq:=Rx (x.neg != y.neg) (zJ (val x.num*val y.num)) (zJ (x.d*y.d)) oM oM (by rw[zR];exact Vw x.d_ne y.d_ne);rw[zR,zR,<-Qd] at cq;have e:mkRat (sgn x.neg (val x.num)*sgn y.neg (val y.num)) (x.d*y.d)=x.q*y.q:=(PX x y).symm;rw[e] at cq;have hb:(x.neg != y.neg)=!decide (x.neg=y.neg):=by grind
 clear hml hnl e;generalize zG (x.q*y.q)=W at *;generalize zJ (x.d*y.d)=M at *;generalize zJ (val x.num*val y.num)=P at *;generalize wT x.den=ux at *;generalize wT y.den=uy at *;obtain⟨a,b,c⟩:=x;obtain⟨a',b',c'⟩:=y;simp only at *;generalize (a != a')=nb at *;cbv;refine zM 16 (by cbv) ?_;cbv;refine dA cn ?_;cbv;refine dA cux ?_;cbv;refine dA cuy ?_;cbv;refine dA cm ?_;cbv;refine wB (by exact⟨vM hb,lR,lR,trivial⟩) cq rfl ?_;cbv;exact rA
def iE (a b:Rat):Rat:=if a<b then b else a
def U9:ty 31=.sli 1 4 [.int .u32 (λ_=>0)]:=by cbv
def iI (l:List UInt32)(k:Nat):val (l.drop k)=(l.getD k 0).toNat+B*val (l.drop (k+1)):=by rcases qW k l.length with h|h;{exact kO h};{rw[Vj h,Vj oM];simp[tA h,val]}
def aS (l:List UInt32)(m:Nat):val l=val (l.take m)+B^m*val (l.drop m):=by rcases qW m l.length with h|h;{exact oC m oM};{rw[Vj h,yW h];simp[val]}
def Wp {a b:List UInt32}{m:Nat}(h:val (a.drop m)<val (b.drop m)):val a<val b:=by rw[aS a m,aS b m];have h1:=w5 a m;have h2:=vQ (B^m) (show val (a.drop m)+1<=val (b.drop m) from h);grind
def HN (a:List UInt32)(i:Nat)(ha:a.length<2^40):zD 127 [nat a,iV i] (.int .u32 (λ_=>((a.getD i 0).toNat:Int))):=by
 refine sF Tryz.f127 ?_;generalize hx:a.getD i 0=x;cbv;refine zE (λh=>?_) (λh=>?_);{cbv;refine xG i (by (grind) <;> (try simp only[zI] at *) <;> omega) om ?_;rw[hx];cbv;exact rA}
 ·cbv
  (refine rC ?_;cbv)
  refine zB ?_;have:a.length<=i:=om;rw[<-hx];simp[tA this]
def i5 (l:List UInt32)(hl:l.length<2^41):zD 128 [nat l] (nat (zJ (val l))):=by
 refine sF Tryz.f128 ?_;have fin:∀ n,n<=l.length->val (l.take n)=val l->(n=0\/∃ m,n=m+1/\l.getD m 0≠0)->l.take n=zJ (val l):=by intro n hn hv h;rcases h with rfl|⟨m,rfl,h⟩;{rw[<-hv];simp[val,y4]};grind [lN,aK,eP]
 generalize hW:zJ (val l)=W at *;cbv;refine zW (σ:=Nat) (λn=>⟨[(0,nat l),(2,.nil),(3,iV n)],[]⟩) (λn=>n<=l.length/\val (l.take n)=val l) (λn=>n) l.length ⟨yD _,by simp⟩ (.le ?_ trivial rfl) ?_;{cbv;exact⟨lR,lR,zB (by simp[zI]),trivial⟩};intro n hn;have done:(n=0\/∃ m,n=m+1/\l.getD m 0≠0)->((lm l).take ((n:Int)).toNat).drop (Int.toNat 0)=lm W:=λh=>by grind [Ft]
 have hwl:W.length<=l.length:=by rw[<-hW];exact z7 l
 cbv;refine zQ (λh=>?_) (λh=>?_)
 ·(try dsimp only [zY] at *)
  obtain⟨m,rfl⟩:∃ m,n=m+1:=⟨n-1,by omega⟩;cbv;refine⟨zC om om,xG m om om ?_⟩;cbv;refine zE (λh2=>?_) (λh2=>?_)
  ·cbv;refine⟨zC om om,m,⟨om,?_⟩,om,.le ?_ trivial rfl⟩
   ·(have e:l.getD m 0=0:=by have:(l.getD m 0).toNat=0:=om;exact ZD.1 this);grind [aK,VW]
   {cbv;exact⟨lR,lR,zB om,trivial⟩}
  ·(have e:l.getD m 0≠0:=λe=>by (try dsimp only [zY] at *);simp_all);have hd:=done (.inr ⟨m,rfl,e⟩)
   cbv;refine⟨uT (Int.le_refl _) om om,eD l,?_⟩
   (try dsimp only [zY] at *)
   rw[hd];refine wM TV rfl rfl rfl rfl rfl (eD W) (z5 om (by simp only[iS];(try dsimp only [zY] at *) <;> (try simp only[zI] at *) <;> omega)) rfl ?_;cbv;refine MF (.frz 22 rfl rfl ?_ ?_) rfl ?_ rfl;{cbv;exact⟨z8 (by simp),z8 (by simp),trivial⟩};{exact trivial};{exact zS (by simp)}
 ·have h0:n=0:=om;have hd:=done (.inl h0);cbv;refine⟨uT (Int.le_refl _) om om,eD l,?_⟩
  (try dsimp only [zY] at *)
  rw[hd];refine wM TV rfl rfl rfl rfl rfl (eD W) (z5 om (by simp only[iS];(try dsimp only [zY] at *) <;> (try simp only[zI] at *) <;> omega)) rfl ?_;cbv;refine MF (.frz 22 rfl rfl ?_ ?_) rfl ?_ rfl;{cbv;exact⟨z8 (by simp),z8 (by simp),trivial⟩};{exact trivial};{exact zS (by simp)}
def Mt (x:Nat)(hx:x<B*B):zD 134 [.int .u64 (λ_=>(x:Int))] (nat (zJ x)):=by
 refine sF Tryz.f134 ?_;have h2:x/B<B:=Nat.div_lt_of_lt_mul hx;have hv:val [UInt32.ofNat (x%B),UInt32.ofNat (x/B)]=x:=by simp only[val,aN];rw[UInt32.toNat_ofNat',qY (show x/B<2^32 from h2),Nat.mul_zero,VS];exact Vm x B
 have c1:=i5 [UInt32.ofNat (x%B),UInt32.ofNat (x/B)] (by simp);rw[hv] at c1;have he:([[.int .u32 (nx .u32 (x:Int))],[.int .u32 (nx .u32 (ishr .u64 (x:Int) 32))]]:List (List D))=lm [UInt32.ofNat (x%B),UInt32.ofNat (x/B)]:=by rw[sQ];simp only[lm,jB,Vn,aN,xY,qY h2,gT,B] at *;grind
 generalize zJ x=W at *;cbv;refine⟨v8 oM,?_⟩;refine yP rfl (by exact⟨zS he,trivial⟩) c1 rfl ?_;cbv;exact rA
def Lu (l:List UInt32)(hl:l.length<2^40):zD 181 [nat l] (.tup [.int .u64 (λ_=>((if val l<B*B then val l else 0:Nat):Int)),bV (decide (val l<B*B))]):=by
 refine sF Tryz.f181 ?_;have hl':=xF (z7 l) hl;have c1:=i5 l oM;have hv:=zR (val l);have h2:=@H8 (val l);generalize zJ (val l)=p at *;generalize hr:(if val l<B*B then val l else 0:Nat)=r;generalize hb:decide (val l<B*B)=b;generalize val l=v at *;have hin:p.length<=2->r=val p/\b=true:=λh=>by grind
 cbv;refine cA c1 ?_;cbv;refine zE (λh=>?_) (λh=>?_)
 ·have h0:p.length=0:=om;obtain⟨e1,e2⟩:=hin oM;cbv
  (refine rC ?_;cbv)
  refine⟨zB ?_,yH e2,trivial⟩;rw[e1,j3 h0];rfl
 ·cbv;refine zE (λh3=>?_) (λh3=>?_)
  ·have h0:p.length=1:=om;obtain⟨e1,e2⟩:=hin oM;cbv;refine xG 0 rfl oM ?_;cbv
   (refine rC ?_;cbv)
   refine⟨zB ?_,yH e2,trivial⟩;rw[e1]
   match p,h0 with
   |[x],_ =>
    have:=yM x;show nx .u64 ((x.toNat:Nat):Int)=((x.toNat+B*0:Nat):Int);grind [x6,B]
  ·cbv;refine zE (λh4=>?_) (λh4=>?_)
   ·have h0:p.length=2:=om;obtain⟨e1,e2⟩:=hin oM;cbv;refine zM 10 (by cbv) ?_;cbv;refine xG 0 rfl oM ?_;cbv;refine xG 1 rfl oM ?_;cbv;refine⟨v8 oM,?_⟩
    (refine rC ?_;cbv)
    refine⟨zB ?_,yH e2,trivial⟩;rw[e1]
    match p,h0 with
    |[x,y],_ =>
     have h5:=yM x;have h6:=yM y;show ior .u64 (nx .u64 ((x.toNat:Nat):Int)) (ishl .u64 (nx .u64 ((y.toNat:Nat):Int)) 32)=((x.toNat+B*(y.toNat+B*0):Nat):Int);grind [x6,B,or2]
   ·have h0:¬p.length<=2:=om;have h5:¬v<B*B:=λe=>h0 (h2.2 e);cbv
    (refine rC ?_;cbv)
    exact⟨zB (by grind),zK (by grind),trivial⟩
def Ru (a b:List UInt32)(ha:a.length<2^40)(hb:b.length<2^40):zD 180 [nat a,nat b] (iV (qQ (val a) (val b))):=by
 refine sF Tryz.f180 ?_;have hlt:val a<val b->qQ (val a) (val b)=-1:=Y7;have hgt:val b<val a->qQ (val a) (val b)=1:=Y8;have heq:val a=val b->qQ (val a) (val b)=0:=λh=>by rw[h,Q8]
 generalize hC:qQ (val a) (val b)=C at *;have hmax:imax ((lm a).length:Int) ((lm b).length:Int)=((max a.length b.length:Nat):Int):=by grind [imax,zI]
 cbv;refine⟨zC (by exact om) (by exact om),?_⟩;refine zW (σ:=Nat) (λn=>⟨[(0,nat a),(1,nat b),(5,iV ((n:Int)-1))],[]⟩) (λn=>n<=max a.length b.length/\val (a.drop n)=val (b.drop n)) (λn=>n) (max a.length b.length) ⟨yD _,by grind [List.drop_of_length_le]⟩ (.le ?_ trivial rfl) ?_;{cbv;exact⟨lR,lR,zB (by (try dsimp only [zY] at *);rw[hmax]),trivial⟩};intro n hn;cbv;refine zE (λh=>?_) (λh=>?_)
 ·(try dsimp only [zY] at *)
  (obtain⟨m,rfl⟩:∃ m,n=m+1:=⟨n-1,by omega⟩;have hm:((m+1:Nat):Int)-1=(m:Int):=by omega);have da:=iI a m
  rw[hn.2] at da;have db:=iI b m;have ca:=HN a m ha;have cb:=HN b m hb;cbv;refine yP rfl (by exact⟨lR,zB hm,trivial⟩) ca rfl ?_;cbv;refine yP rfl (by exact⟨lR,zB hm,trivial⟩) cb rfl ?_;cbv;refine zE (λh2=>?_) (λh2=>?_)
  ·cbv
   (refine rC ?_;cbv)
   exact zB (hlt (Wp (m:=m) (by exact om))).symm
  ·cbv;refine yP rfl (by exact⟨lR,zB hm,trivial⟩) ca rfl ?_;cbv;refine yP rfl (by exact⟨lR,zB hm,trivial⟩) cb rfl ?_;cbv;refine zE (λh3=>?_) (λh3=>?_)
   ·cbv
    (refine rC ?_;cbv)
    exact zB (hgt (Wp (m:=m) (by exact om))).symm
   {cbv;refine⟨zC om om,m,⟨by omega,by exact om⟩,by omega,.le ?_ trivial rfl⟩;cbv;exact⟨lR,lR,zB om,trivial⟩}
 ·have h0:n=0:=om;subst h0;cbv
  (refine rC ?_;cbv)
  exact zB (heq (by grind)).symm
def Lz (a b:List UInt32)(ha:a.length<2^40)(hb:b.length<2^40):zD 158 [nat a,nat b] (bV (decide (a=b))):=by
 refine sF Tryz.f158 ?_;generalize hC:decide (a=b)=C at *;cbv;refine zE (λh=>?_) (λh=>?_)
 ·(have hl:a.length=b.length:=by (try dsimp only [zY] at *);grind [zI]);cbv
  refine zW (σ:=Nat) (λn=>⟨[(0,nat a),(1,nat b),(5,iV n)],[]⟩) (λn=>n<=a.length/\a.take n=b.take n) (λn=>a.length-n) 0 ⟨yU _,by simp⟩ (.le ?_ trivial rfl) ?_;{cbv;exact okA};intro n hn;cbv;refine zE (λh2=>?_) (λh2=>?_)
  ·have hlt:n<a.length:=om;cbv;refine zM 9 (by cbv) ?_;cbv;refine xG n (by (grind) <;> (try simp only[zI] at *) <;> omega) om ?_;cbv;refine xG n (by (grind) <;> (try simp only[zI] at *) <;> omega) om ?_;cbv;refine zE (λh3=>?_) (λh3=>?_);{cbv;refine⟨zC om om,n+1,⟨hlt,?_⟩,by omega,.le ?_ trivial rfl⟩;{have e:a.getD n 0=b.getD n 0:=ZD.1 (by exact om);grind [aK]};{cbv;exact⟨lR,lR,zB om,trivial⟩}}
   ·cbv
    (refine rC ?_;cbv)
    refine zK ?_;grind
  ·have hn0:n=a.length:=om;subst hn0;cbv
   (refine rC ?_;cbv)
   refine yH ?_;grind
 ·cbv
  (refine rC ?_;cbv)
  refine zK ?_;grind
def bW (d:D):Wid 1 (λ_=>[[d]]):=⟨λe he=>by grind⟩
def aE (out:List UInt32)(S:Nat):lm out++[[.int .u32 (nx .u32 ((S:Nat):Int))]]=lm (out++[UInt32.ofNat S]):=by rw[<-DG];congr 1;simp only[lm,jB,Vn,xY,gT,B];congr 2
theorem jS (l:List UInt32)(S:Nat):val (l++[UInt32.ofNat S])=val l+B^l.length*(S%B):=by rw[Kt,xY]
def RC (a b:List UInt32)(ha:a.length<2^40)(hb:b.length<2^40):zD 130 [nat a,nat b] (nat (zJ (val a+val b))):=by
 refine sF Tryz.f130 ?_;generalize hW:zJ (val a+val b)=W;cbv;refine zW (σ:=Nat×Nat×List UInt32) (λs=>⟨[(0,nat a),(1,nat b),(5,oV 35 1 s.1),(6,.int .u64 (λ_=>(s.2.1:Int))),(7,iV s.1)],[(35,aV 1 (lm s.2.2))]⟩)
  (λs=>s.1<=max a.length b.length/\s.2.1<2/\s.2.2.length=s.1/\val s.2.2+B^s.1*s.2.1=val (a.take s.1)+val (b.take s.1)) (λs=>max a.length b.length-s.1)
  (0,0,[]) ⟨yU _,by grind,rfl,by simp[val]⟩ (.trans (.adoptT 35 1 5 rfl rfl) (.le ?_ ?_ rfl)) ?_
 {cbv;exact okA};{cbv;exact⟨zH rfl,trivial⟩};intro s hs;obtain⟨h1,h2,h3,h4⟩:=hs;generalize s.1=i at *;generalize s.2.1=c at *;generalize s.2.2=out at *;have ca:=HN a i ha;have cb:=HN b i hb;have hx:=yM (a.getD i 0);have hy:=yM (b.getD i 0);simp only[B] at hx hy;cbv;refine zQ (λh5=>?_) (λh5=>?_)
 ·(have hi:i<a.length:=om;cbv;refine yP rfl okA ca rfl ?_;cbv;refine yP rfl okA cb rfl ?_;have hS:nx .u64 ((c:Int)+nx .u64 (nx .u64 (((a.getD i 0).toNat:Nat):Int)+nx .u64 (((b.getD i 0).toNat:Nat):Int)))=((c+((a.getD i 0).toNat+(b.getD i 0).toNat):Nat):Int):=by grind [uH]);cbv
  refine wM U9 rfl rfl rfl (by rw[zI,h3]) rfl (bW _) (z5 (t7 _) (by show (((lm out).length+1:Nat):Int)*4<=70368744177664;grind [zI])) rfl ?_;cbv;refine⟨v8 oM,zC om om,(i+1,(c+((a.getD i 0).toNat+(b.getD i 0).toNat))/B,out++[UInt32.ofNat (c+((a.getD i 0).toNat+(b.getD i 0).toNat))]),⟨by omega,?_,by simp[h3],?_⟩,by omega,.le ?_ ?_ rfl⟩;{grind [B]};{grind [jS,z6,Nat.mod_add_div]}
  ·cbv;refine⟨lR,lR,zZ rfl (by show (lm out).length+1=i+1;rw[zI,h3]),zB ?_,zB om,trivial⟩
   (try dsimp only [zY] at *)
   rw[hS];exact sQ _
  ·cbv;refine⟨zH ?_,trivial⟩
   (try dsimp only [zY] at *)
   rw[hS];exact aE out _
 ·cbv;refine zE (λh6=>?_) (λh6=>?_)
  ·(have hi:i<b.length:=om;cbv;refine yP rfl okA ca rfl ?_;cbv;refine yP rfl okA cb rfl ?_;have hS:nx .u64 ((c:Int)+nx .u64 (nx .u64 (((a.getD i 0).toNat:Nat):Int)+nx .u64 (((b.getD i 0).toNat:Nat):Int)))=((c+((a.getD i 0).toNat+(b.getD i 0).toNat):Nat):Int):=by grind [uH]);cbv
   refine wM U9 rfl rfl rfl (by rw[zI,h3]) rfl (bW _) (z5 (t7 _) (by show (((lm out).length+1:Nat):Int)*4<=70368744177664;grind [zI])) rfl ?_;cbv;refine⟨v8 oM,zC om om,(i+1,(c+((a.getD i 0).toNat+(b.getD i 0).toNat))/B,out++[UInt32.ofNat (c+((a.getD i 0).toNat+(b.getD i 0).toNat))]),⟨by omega,?_,by simp[h3],?_⟩,by omega,.le ?_ ?_ rfl⟩;{grind [B]};{grind [jS,z6,Nat.mod_add_div]}
   ·cbv;refine⟨lR,lR,zZ rfl (by show (lm out).length+1=i+1;rw[zI,h3]),zB ?_,zB om,trivial⟩
    (try dsimp only [zY] at *)
    rw[hS];exact sQ _
   ·cbv;refine⟨zH ?_,trivial⟩
    (try dsimp only [zY] at *)
    rw[hS];exact aE out _
  ·(have hi1:a.length<=i:=om;have hi2:b.length<=i:=om;rw[yW hi1,yW hi2] at h4;have cm:=i5 (out++[UInt32.ofNat c]) (by grind);have hv:val (out++[UInt32.ofNat c])=val a+val b:=by grind [jS,B]);rw[hv,hW] at cm
   cbv;refine wM U9 rfl rfl rfl (by rw[zI,h3]) rfl (bW _) (z5 (t7 _) (by show (((lm out).length+1:Nat):Int)*4<=70368744177664;grind [zI])) rfl ?_;cbv;refine qF (.frz 42 rfl rfl ?_ ?_) rfl (by refine⟨zS ?_,trivial⟩;exact (yW (by grind)).trans (aE out c)) cm rfl ?_;{cbv;exact⟨z8 (by grind),trivial⟩};{exact trivial};cbv;exact rA
def C3 (a b:List UInt32)(ha:a.length<2^40)(hb:b.length<2^40):zD 131 [nat a,nat b] (.tup [nat (zJ (val a-val b)),iV (if val b<=val a then 0 else 2)]):=by
 refine sF Tryz.f131 ?_;have cc:=Ru a b ha hb;have hcl:qQ (val a) (val b)<0↔val a<val b:=by grind [qQ]
 generalize qQ (val a) (val b)=C at *;have hlt:val a<val b->zJ (val a-val b)=[]/\(if val b<=val a then (0:Int) else 2)=2:=λh=>⟨by rw[Nat.sub_eq_zero_of_le oM,y4],by omega⟩;have hge:val b<=val a->(if val b<=val a then (0:Int) else 2)=0:=λh=>if_pos h;generalize hW:zJ (val a-val b)=W at *;generalize (if val b<=val a then (0:Int) else 2)=E at *;cbv;refine cA cc ?_;cbv;refine zE (λh=>?_) (λh=>?_)
 ·obtain⟨e1,e2⟩:=hlt (hcl.1 h);cbv
  (refine rC ?_;cbv)
  exact⟨yX (by rw[e1];rfl),zB (by rw[e2]),trivial⟩
 have hba:val b<=val a:=by omega
 have hE:=hge hba;cbv;refine zW (σ:=Nat×Nat×List UInt32) (λs=>⟨[(0,nat a),(1,nat b),(6,oV 42 1 s.1),(7,.int .u64 (λ_=>(s.2.1:Int))),(8,iV s.1)],[(42,aV 1 (lm s.2.2))]⟩)
  (λs=>s.1<=a.length/\s.2.1<2/\s.2.2.length=s.1/\val s.2.2+val (b.take s.1)=val (a.take s.1)+B^s.1*s.2.1) (λs=>a.length-s.1)
  (0,0,[]) ⟨yU _,by grind,rfl,by simp[val]⟩ (.trans (.adoptT 42 1 6 rfl rfl) (.le ?_ ?_ rfl)) ?_
 {cbv;exact okA};{cbv;exact⟨zH rfl,trivial⟩};intro s hs;obtain⟨h1,h2,h3,h4⟩:=hs;generalize s.1=i at *;generalize s.2.1=c at *;generalize s.2.2=out at *;have ca:=HN a i ha;have cb:=HN b i hb;have hx:=yM (a.getD i 0);have hy:=yM (b.getD i 0);simp only[B] at hx hy;cbv;refine zE (λh5=>?_) (λh5=>?_)
 ·(have hi:i<a.length:=om;have hX:nx .u64 (((a.getD i 0).toNat:Nat):Int)=(((a.getD i 0).toNat:Nat):Int):=x6 oM;have hY:nx .u64 (nx .u64 (((b.getD i 0).toNat:Nat):Int)+(c:Int))=(((b.getD i 0).toNat+c:Nat):Int):=by grind [uH]);cbv
  refine yP rfl okA ca rfl ?_;cbv;refine yP rfl okA cb rfl ?_;cbv;refine zE (λh6=>?_) (λh6=>?_)
  ·(try dsimp only [zY] at *)
   (rw[hX,hY] at h6;have h6':(a.getD i 0).toNat<(b.getD i 0).toNat+c:=Int.ofNat_lt.1 h6;clear h6;have hZ:nx .u64 (nx .u64 (nx .u64 (((a.getD i 0).toNat:Nat):Int)+4294967296)-nx .u64 (nx .u64 (((b.getD i 0).toNat:Nat):Int)+(c:Int)))=(((a.getD i 0).toNat+4294967296-((b.getD i 0).toNat+c):Nat):Int):=by grind [uH]);cbv
   refine wM U9 rfl rfl rfl (by rw[zI,h3]) rfl (bW _) (z5 (t7 _) (by show (((lm out).length+1:Nat):Int)*4<=70368744177664;grind [zI])) rfl ?_;cbv;refine⟨zC om om,(i+1,1,out++[UInt32.ofNat ((a.getD i 0).toNat+4294967296-((b.getD i 0).toNat+c))]),⟨hi,by grind,by simp[h3],?_⟩,by omega,.le ?_ ?_ rfl⟩
   ·(show val (out++[_])+val (b.take (i+1))=val (a.take (i+1))+B^(i+1)*1;rw[jS,h3,z6 a,z6 b,uC,qY (show (a.getD i 0).toNat+4294967296-((b.getD i 0).toNat+c)<B by grind [B])];generalize (a.getD i 0).toNat=x at *;generalize (b.getD i 0).toNat=y at *;generalize B^i=P at *;have e1:P*(x+4294967296-(y+c))+P*y+P*c=P*x+P*B*1:=by rw[<-qO,<-qO,gF,<-qO];congr 1;grind [B]);omega
   {cbv;exact⟨lR,lR,zZ rfl (by show (lm out).length+1=i+1;rw[zI,h3]),lR,zB om,trivial⟩}
   ·cbv;refine⟨zH ?_,trivial⟩
    (try dsimp only [zY] at *)
    rw[hZ];exact aE out _
  ·(try dsimp only [zY] at *)
   (rw[hX,hY] at h6;have h6':(b.getD i 0).toNat+c<=(a.getD i 0).toNat:=Nat.not_lt.1 (λe=>h6 (Int.ofNat_lt.2 e));clear h6;have hZ:nx .u64 (nx .u64 (((a.getD i 0).toNat:Nat):Int)-nx .u64 (nx .u64 (((b.getD i 0).toNat:Nat):Int)+(c:Int)))=(((a.getD i 0).toNat-((b.getD i 0).toNat+c):Nat):Int):=by grind [uH]);cbv
   refine wM U9 rfl rfl rfl (by rw[zI,h3]) rfl (bW _) (z5 (t7 _) (by show (((lm out).length+1:Nat):Int)*4<=70368744177664;grind [zI])) rfl ?_;cbv;refine⟨zC om om,(i+1,0,out++[UInt32.ofNat ((a.getD i 0).toNat-((b.getD i 0).toNat+c))]),⟨hi,by grind,by simp[h3],?_⟩,by omega,.le ?_ ?_ rfl⟩
   ·(show val (out++[_])+val (b.take (i+1))=val (a.take (i+1))+B^(i+1)*0;rw[jS,h3,z6 a,z6 b,uC,qY (show (a.getD i 0).toNat-((b.getD i 0).toNat+c)<B by grind [B])];generalize (a.getD i 0).toNat=x at *;generalize (b.getD i 0).toNat=y at *;generalize B^i=P at *;have e1:P*(x-(y+c))+P*y+P*c=P*x+P*B*0:=by rw[<-qO,<-qO,gF,<-qO];grind);omega
   {cbv;exact⟨lR,lR,zZ rfl (by show (lm out).length+1=i+1;rw[zI,h3]),lR,zB om,trivial⟩}
   ·cbv;refine⟨zH ?_,trivial⟩
    (try dsimp only [zY] at *)
    rw[hZ];exact aE out _
 ·have hi:i=a.length:=om;have hbt:val (b.take a.length)=val b:=by have e1:=aS b a.length;have e2:=x5 a;rcases Vl (val (b.drop a.length)) with e3|e3;{grind};{have:=vQ (B^a.length) e3;omega}
  (rw[hi,yW (yD _),hbt] at h4;have hc0:c=0:=by grind [x5]);have cm:=i5 out oM
  (have hv:val out=val a-val b:=by grind);rw[hv,hW] at cm
  cbv;refine qF (.frz 42 rfl rfl ?_ ?_) rfl (by refine⟨zS ?_,trivial⟩;exact yW (by show ((lm out).drop 0).length<=i;rw[xM,zI];omega)) cm rfl ?_;{cbv;exact⟨z8 (by grind [zI]),z8 (by grind [zI]),trivial⟩};{exact trivial};cbv
  (refine rC ?_;cbv)
  exact⟨lR,zB (by rw[hE]),trivial⟩
def s99 (a b:List UInt32)(ha:a.length<2^39)(hb:b.length<2^39):zD 59 [nat a,nat b] (nat (zJ (val a*val b))):=by
 refine sF Tryz.f59 ?_;have hBB:B*B=18446744073709551616:=by decide
 have hB:B=4294967296:=rfl;generalize hW:zJ (val a*val b)=W;cbv;refine⟨zC om om,zC om om,z5 om om,kX om om,?_⟩;cbv;refine zW (σ:=Nat×List UInt32) (λs=>⟨[(0,nat a),(1,nat b),(5,oV 15 1 (a.length+b.length+1)),(6,iV s.1)],[(15,aV 1 (lm s.2))]⟩)
  (λs=>s.1<=a.length/\s.2.length=a.length+b.length+1/\val s.2=val (a.take s.1)*val b) (λs=>a.length-s.1)
  (0,List.replicate (a.length+b.length+1) 0) ⟨yU _,by simp,by simp[val,gW]⟩ (.le ?_ ?_ rfl) ?_
 {cbv;exact⟨lR,lR,zZ rfl (by (try dsimp only [zY] at *);grind [zI]),lR,trivial⟩};{cbv;exact⟨zH (ZW _ _ (by (try dsimp only [zY] at *);grind [zI])),trivial⟩};intro s hs;obtain⟨h1,h2,h3⟩:=hs;generalize s.1=i at *;generalize s.2=out at *;cbv;refine zE (λh4=>?_) (λh4=>?_)
 ·have hi:i<a.length:=om;have hx:=yM (a.getD i 0);have hta:=z6 a i;cbv;refine zW (σ:=Nat×Nat×List UInt32) (λs=>⟨[(0,nat a),(1,nat b),(5,oV 15 1 (a.length+b.length+1)),(6,iV i),(7,.int .u64 (λ_=>(s.2.1:Int))),(8,iV s.1)],[(15,aV 1 (lm s.2.2))]⟩)
   (λs=>s.1<=b.length+1/\s.2.1<B/\s.2.2.length=a.length+b.length+1/\val s.2.2+B^(i+s.1)*s.2.1=val (a.take i)*val b+B^i*((a.getD i 0).toNat*val (b.take s.1))) (λs=>b.length+1-s.1)
   (0,0,out) ⟨yU _,w8,h2,by simp[val,h3]⟩ (.le ?_ ?_ rfl) ?_
  {cbv;exact okA};{cbv;exact⟨zH rfl,trivial⟩};intro s hs;obtain⟨k1,k2,k3,k4⟩:=hs;generalize s.1=k at *;generalize s.2.1=c at *;generalize s.2.2=o at *;have cb:=HN b k oM;have hy:=yM (b.getD k 0);have ho:=yM (o.getD (i+k) 0);cbv;refine zE (λh5=>?_) (λh5=>?_)
  ·(have hk:k<=b.length:=om;have hm:(a.getD i 0).toNat*(b.getD k 0).toNat<=(B-1)*(B-1):=Nat.mul_le_mul oM oM;have hmB:(B-1)*(B-1)+(B-1)+(B-1)<B*B:=by decide);have hTl:c+((a.getD i 0).toNat*(b.getD k 0).toNat+(o.getD (i+k) 0).toNat)<B*B:=by omega
   (have hS:nx .u64 ((c:Int)+nx .u64 (nx .u64 (nx .u64 (((a.getD i 0).toNat:Nat):Int)*nx .u64 (((b.getD k 0).toNat:Nat):Int))+nx .u64 (((o.getD (i+k) 0).toNat:Nat):Int)))=((c+((a.getD i 0).toNat*(b.getD k 0).toNat+(o.getD (i+k) 0).toNat):Nat):Int):=by rw[x6 (n:=(a.getD i 0).toNat) oM,x6 (n:=(b.getD k 0).toNat) oM,x6 (n:=(o.getD (i+k) 0).toNat) oM];have e1:nx .u64 ((((a.getD i 0).toNat:Nat):Int)*(((b.getD k 0).toNat:Nat):Int))=(((a.getD i 0).toNat*(b.getD k 0).toNat:Nat):Int):=x6 (n:=(a.getD i 0).toNat*(b.getD k 0).toNat) oM;rw[e1];have e2:nx .u64 ((((a.getD i 0).toNat*(b.getD k 0).toNat:Nat):Int)+(((o.getD (i+k) 0).toNat:Nat):Int))=(((a.getD i 0).toNat*(b.getD k 0).toNat+(o.getD (i+k) 0).toNat:Nat):Int):=x6 (n:=(a.getD i 0).toNat*(b.getD k 0).toNat+(o.getD (i+k) 0).toNat) oM;rw[e2];exact x6 (n:=c+((a.getD i 0).toNat*(b.getD k 0).toNat+(o.getD (i+k) 0).toNat)) oM);cbv;refine zM 20 (by cbv) ?_;cbv;refine xG i (by (grind) <;> (try simp only[zI] at *) <;> omega) om ?_;cbv;refine dA cb ?_;cbv;refine⟨zC om om,yZ om om,j9 (i+k) (by exact om) om ?_⟩;cbv;refine⟨zC om om,yZ om om,j9 (i+k) (by exact om) om ?_⟩;cbv;refine⟨v8 oM,zC om om,(k+1,(c+((a.getD i 0).toNat*(b.getD k 0).toNat+(o.getD (i+k) 0).toNat))/B,o.set (i+k) (UInt32.ofNat (c+((a.getD i 0).toNat*(b.getD k 0).toNat+(o.getD (i+k) 0).toNat)))),⟨by omega,?_,by grind,?_⟩,by omega,.le ?_ ?_ rfl⟩;{grind}
   ·(show val (o.set (i+k) _)+B^(i+(k+1))*((c+((a.getD i 0).toNat*(b.getD k 0).toNat+(o.getD (i+k) 0).toNat))/B)=val (a.take i)*val b+B^i*((a.getD i 0).toNat*val (b.take (k+1)));have e1:=rD o (j:=i+k) oM (UInt32.ofNat (c+((a.getD i 0).toNat*(b.getD k 0).toNat+(o.getD (i+k) 0).toNat)));rw[xY] at e1;rw[z6 b,show B^(i+(k+1))=B^(i+k)*B by grind];have hdm:=Vm (c+((a.getD i 0).toNat*(b.getD k 0).toNat+(o.getD (i+k) 0).toNat)) B;have e3:B^i*((a.getD i 0).toNat*(val (b.take k)+B^k*(b.getD k 0).toNat))=B^i*((a.getD i 0).toNat*val (b.take k))+B^(i+k)*((a.getD i 0).toNat*(b.getD k 0).toNat):=by rw[qO,qO,bJ,Nat.mul_left_comm (a.getD i 0).toNat,<-gF (B^i) (B^k)]);rw[e3]
    generalize val (o.set (i+k) (UInt32.ofNat (c+((a.getD i 0).toNat*(b.getD k 0).toNat+(o.getD (i+k) 0).toNat))))=vo at *;generalize (c+((a.getD i 0).toNat*(b.getD k 0).toNat+(o.getD (i+k) 0).toNat))%B=lo at *;generalize (c+((a.getD i 0).toNat*(b.getD k 0).toNat+(o.getD (i+k) 0).toNat))/B=hi' at *;grind
   ·cbv;refine⟨lR,lR,lR,lR,zB ?_,zB om,trivial⟩
    (try dsimp only [zY] at *)
    rw[hS];exact sQ _
   ·cbv;refine⟨zH ?_,trivial⟩
    (try dsimp only [zY] at *)
    rw[hS];exact fF o oM _
  ·(have hk:k=b.length+1:=om;rw[yW (show b.length<=k by omega)] at k4;have hfull:val (a.take i)*val b+B^i*((a.getD i 0).toNat*val b)=val (a.take (i+1))*val b:=by grind);rw[hfull] at k4
   have hc0:c=0:=by
    (have e1:=UW (w5 a (i+1)) (x5 b);have e0:i+1+b.length=i+k:=by omega);rw[<-bJ,e0] at e1
    generalize B^(i+k)=P at *;rcases Vl c with e2|e2;{exact e2};{exfalso;have e3:P*1<=P*c:=vQ P e2;omega}
   (have k5:val o=val (a.take (i+1))*val b:=by grind);cbv
   refine⟨zC om om,(i+1,o),⟨hi,k3,k5⟩,by omega,.le ?_ ?_ rfl⟩;{cbv;exact⟨lR,lR,lR,zB om,trivial⟩};{cbv;exact⟨zH rfl,trivial⟩}
 {have hi:i=a.length:=om;rw[hi,yW (yD _)] at h3;have cm:=i5 out oM;rw[h3,hW] at cm;cbv;refine qF (.frz 15 rfl rfl ?_ ?_) rfl (by refine⟨zS ?_,trivial⟩;exact yW (by show ((lm out).drop 0).length<=a.length+b.length+1;rw[xM,zI];omega)) cm rfl ?_;{cbv;exact⟨z8 (by grind [zI]),z8 (by grind [zI]),trivial⟩};{exact trivial};cbv;exact rA}
def S8 (a:List UInt32) (k:Nat):Option (Nat×Nat×List UInt32)->Prop
 |none=>True| some s=>s.1<=a.length/\s.2.1<2^k/\s.2.2.length=s.1/\val s.2.2+B^s.1*s.2.1=val (a.take s.1)*2^k
def PK (a:List UInt32):Option (Nat×Nat×List UInt32)->Nat
 |none=>a.length+1| some s=>a.length-s.1
def Mr (a:List UInt32)(k:Nat)(ha:a.length<2^40)(hk:k<32):zD 183 [nat a,iV k] (nat (zJ (val a*2^k))):=by
 refine sF Tryz.f183 ?_;generalize hW:zJ (val a*2^k)=W;have hk2:=Vk k;have hq:nx .i64 (iquo (k:Int) 32)=0:=by grind [iquo,ZV]
 have hr:irem (k:Int) 32=(k:Int):=by have:=uJ (a:=k) (b:=32);grind
 obtain⟨i0,hi0⟩:∃ i0:Nat,i0=0:=⟨0,rfl⟩;obtain⟨c0,hc0⟩:∃ c0:Nat,c0=0:=⟨0,rfl⟩;obtain⟨out0,hout0⟩:∃ out0:List UInt32,out0=[]:=⟨[],rfl⟩;cbv;refine⟨vX oM,z5 (by exact om) (by exact om),kX (by exact om) (by exact om),?_⟩;cbv;refine zW (σ:=Option (Nat×Nat×List UInt32)) (λs=>match s with
   |none=>⟨[(0,nat a),(1,iV k),(5,oV 10 1 i0),(6,.int .u64 (λ_=>(c0:Int))),(7,iV i0)],[(10,aV 1 (lm out0))]⟩| some s=>⟨[(0,nat a),(1,iV k),(5,oV 31 1 s.1),(6,.int .u64 (λ_=>(s.2.1:Int))),(7,iV s.1)],[(31,aV 1 (lm s.2.2))]⟩)
  (S8 a k) (PK a) none trivial (.le ?_ ?_ rfl) ?_
 {cbv;exact⟨lR,lR,zZ rfl (by exact om),zB (by grind),zB (by grind),trivial⟩};{cbv;exact⟨zH (by (try dsimp only [zY] at *);rw[hq,hout0];rfl),trivial⟩};intro s hs;cases s with
 |none =>
  (have h1:i0<=a.length:=by omega);have h2:c0<2^k:=by omega
  (have h3:out0.length=i0:=by grind);have h4:val out0+B^i0*c0=val (a.take i0)*2^k:=by rw[hout0,hi0,hc0];simp[val]
  clear hi0 hc0 hout0;generalize i0=i at *;generalize c0=c at *;generalize out0=out at *;have hmu:PK a none=a.length+1:=rfl;cbv;refine zE (λh5=>?_) (λh5=>?_)
  ·(have hi:i<a.length:=om;have hx:=yM (a.getD i 0);simp only[B] at hx;have hm:(a.getD i 0).toNat*2^k<4294967296*2^k:=eX hx hk2;have hm2:4294967296*2^k<=4294967296*2147483648:=vQ _ (dH (show 0<2 by omega) (show k<=31 by omega));have hS:ior .u64 (c:Int) (ishl .u64 (nx .u64 (((a.getD i 0).toNat:Nat):Int)) (irem (k:Int) 32))=((c+2^k*(a.getD i 0).toNat:Nat):Int):=by rw[hr,x6 (n:=(a.getD i 0).toNat) oM,pW oM oM,Jo oM oM,qX (a.getD i 0).toNat,tI h2]);cbv
   refine xG i (by (grind) <;> (try simp only[zI] at *) <;> omega) om ?_;cbv;refine⟨vX oM,v8 (by exact om),?_⟩;refine wM U9 rfl rfl rfl (by rw[zI,h3]) rfl (bW _) (z5 (t7 _) (by show (((lm out).length+1:Nat):Int)*4<=70368744177664;grind [zI])) rfl ?_;cbv;obtain⟨i',hi'⟩:∃ x,x=i+1:=⟨_,rfl⟩;obtain⟨c',hc'⟩:∃ x,x=(c+2^k*(a.getD i 0).toNat)/B:=⟨_,rfl⟩;obtain⟨out',ho'⟩:∃ x,x=out++[UInt32.ofNat (c+2^k*(a.getD i 0).toNat)]:=⟨_,rfl⟩;refine⟨v8 oM,zC om om,some (i',c',out'),⟨by omega,?_,by grind,?_⟩,by show a.length-i'<a.length+1;omega,.le ?_ ?_ rfl⟩;{show c'<2^k;rw[hc'];show (c+2^k*(a.getD i 0).toNat)/B<2^k;rw[ZE w8];have:2^k*((a.getD i 0).toNat+1)<=2^k*B:=vQ _ (by grind [B]);rw[qO] at this;omega};{show val out'+B^i'*c'=val (a.take i')*2^k;rw[ho',hc',hi',jS,h3,z6 a,uC,gI,<-h4];grind [Nat.mod_add_div]}
   ·cbv;refine⟨lR,lR,zZ rfl (by show (lm out).length+1=i';grind [zI]),zB ?_,zB om,trivial⟩
    (try dsimp only [zY] at *)
    rw[hS,hc'];exact sQ _
   ·cbv;refine⟨zH ?_,trivial⟩
    (try dsimp only [zY] at *)
    rw[hS,ho'];exact aE out _
  ·(have hi:a.length<=i:=om;have cm:=i5 (out++[UInt32.ofNat c]) (by grind);have hcB:c<B:=uR h2 (by simp only[B];exact dH (show 0<2 by omega) (show k<=32 by omega));rw[yW hi] at h4;have hv:val (out++[UInt32.ofNat c])=val a*2^k:=by grind [jS,Nat.mod_eq_of_lt]);rw[hv,hW] at cm
   cbv;refine wM U9 rfl rfl rfl (by rw[zI,h3]) rfl (bW _) (z5 (t7 _) (by show (((lm out).length+1:Nat):Int)*4<=70368744177664;grind [zI])) rfl ?_;cbv;refine qF (.frz 38 rfl rfl ?_ ?_) rfl (by refine⟨zS ?_,trivial⟩;exact (yW (by grind)).trans (aE out c)) cm rfl ?_;{cbv;exact⟨z8 (by grind),trivial⟩};{exact trivial};cbv;exact rA
 |some s =>
  obtain⟨h1,h2,h3,h4⟩:=hs;obtain⟨i,c,out⟩:=s;simp only at h1 h2 h3 h4;clear hi0 hc0 hout0;cbv;refine zE (λh5=>?_) (λh5=>?_)
  ·(have hi:i<a.length:=om;have hx:=yM (a.getD i 0);simp only[B] at hx;have hm:(a.getD i 0).toNat*2^k<4294967296*2^k:=eX hx hk2;have hm2:4294967296*2^k<=4294967296*2147483648:=vQ _ (dH (show 0<2 by omega) (show k<=31 by omega));have hS:ior .u64 (c:Int) (ishl .u64 (nx .u64 (((a.getD i 0).toNat:Nat):Int)) (irem (k:Int) 32))=((c+2^k*(a.getD i 0).toNat:Nat):Int):=by rw[hr,x6 (n:=(a.getD i 0).toNat) oM,pW oM oM,Jo oM oM,qX (a.getD i 0).toNat,tI h2]);cbv
   refine xG i (by (grind) <;> (try simp only[zI] at *) <;> omega) om ?_;cbv;refine⟨vX oM,v8 (by exact om),?_⟩;refine wM U9 rfl rfl rfl (by rw[zI,h3]) rfl (bW _) (z5 (t7 _) (by show (((lm out).length+1:Nat):Int)*4<=70368744177664;grind [zI])) rfl ?_;cbv;obtain⟨i',hi'⟩:∃ x,x=i+1:=⟨_,rfl⟩;obtain⟨c',hc'⟩:∃ x,x=(c+2^k*(a.getD i 0).toNat)/B:=⟨_,rfl⟩;obtain⟨out',ho'⟩:∃ x,x=out++[UInt32.ofNat (c+2^k*(a.getD i 0).toNat)]:=⟨_,rfl⟩;refine⟨v8 oM,zC om om,some (i',c',out'),⟨by omega,?_,by grind,?_⟩,by show a.length-i'<a.length-i;omega,.le ?_ ?_ rfl⟩;{show c'<2^k;rw[hc'];show (c+2^k*(a.getD i 0).toNat)/B<2^k;rw[ZE w8];have:2^k*((a.getD i 0).toNat+1)<=2^k*B:=vQ _ (by grind [B]);rw[qO] at this;omega};{show val out'+B^i'*c'=val (a.take i')*2^k;rw[ho',hc',hi',jS,h3,z6 a,uC,gI,<-h4];grind [Nat.mod_add_div]}
   ·cbv;refine⟨lR,lR,zZ rfl (by show (lm out).length+1=i';grind [zI]),zB ?_,zB om,trivial⟩
    (try dsimp only [zY] at *)
    rw[hS,hc'];exact sQ _
   ·cbv;refine⟨zH ?_,trivial⟩
    (try dsimp only [zY] at *)
    rw[hS,ho'];exact aE out _
  ·(have hi:a.length<=i:=om;have cm:=i5 (out++[UInt32.ofNat c]) (by grind);have hcB:c<B:=uR h2 (by simp only[B];exact dH (show 0<2 by omega) (show k<=32 by omega));rw[yW hi] at h4;have hv:val (out++[UInt32.ofNat c])=val a*2^k:=by grind [jS,Nat.mod_eq_of_lt]);rw[hv,hW] at cm
   cbv;refine wM U9 rfl rfl rfl (by rw[zI,h3]) rfl (bW _) (z5 (t7 _) (by show (((lm out).length+1:Nat):Int)*4<=70368744177664;grind [zI])) rfl ?_;cbv;refine qF (.frz 38 rfl rfl ?_ ?_) rfl (by refine⟨zS ?_,trivial⟩;exact (yW (by grind)).trans (aE out c)) cm rfl ?_;{cbv;exact⟨z8 (by grind),trivial⟩};{exact trivial};cbv;exact rA
end Go.Proofs.YtaeaffgjdcigoaaGreat
