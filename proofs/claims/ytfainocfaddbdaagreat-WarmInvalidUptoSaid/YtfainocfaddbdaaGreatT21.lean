/- A part of the proof: RqB, ReA, ReB. -/
import Derived.Test.YtfainocfaddbdaaGreatT20
set_option linter.all false
namespace Go.Proofs.YtfainocfaddbdaaGreat
open Go
set_option maxRecDepth 100000
theorem s163 (x:Z)(hx:x.mag.length<2^38):zM 99 [zv x] (rv (zS (x.v:Rat))):=by
 refine sF Tryz.f99 ?_;have cq:=s193 x.neg x.mag [1] hx (by simp) (by decide);have e:mkRat (sgn x.neg (val x.mag)) (val [1])=(x.v:Rat):=by have:=Rat.mkRat_self (x.v:Rat);rw[Rat.num_intCast,Rat.den_intCast] at this;exact this
 rw[e] at cq;generalize zS (x.v:Rat)=W at *
 obtain⟨neg,mag⟩:=x;cbv;refine zZ 6 (by cbv) ?_;cbv;refine dA s210 ?_;cbv;refine dA cq ?_;cbv
 (refine rC ?_;cbv)
 exact okA
theorem iN (x:Int)(h1:-9223372036854775808<=x)(h2:x<9223372036854775808):(xH x).mag.length<=2:=by
 refine z4 ?_;have:B^2=18446744073709551616:=by decide
 omega
theorem s104 (x:Int)(h1:-9223372036854775808<=x)(h2:x<9223372036854775808):zM 54 [.int .i64 (fun _=>x)] (rv (zS (x:Rat))):=by
 refine sF Tryz.f54 ?_;have c1:=s164 x h1 h2;have hl:=iN x h1 h2;have c2:=s163 (xH x) (by omega);rw[k9] at c2;generalize zS (x:Rat)=W at *
 generalize xH x=y at *
 cbv;refine cA c1 ?_;cbv;refine cA c2 ?_;cbv
 (refine rC ?_;cbv)
 exact okA
theorem s147 (x:R)(hx:x.num.length<2^40):zM 97 [rv x] (zv (xH x.n)):=by
 refine sF Tryz.f97 ?_;have c1:=s203 x.neg x.num hx;have e:sgn x.neg (val x.num)=x.n:=rfl;rw[e] at c1;generalize xH x.n=W at *
 obtain⟨neg,num,den⟩:=x;cbv;refine cA c1 ?_;cbv
 (refine rC ?_;cbv)
 exact okA
theorem zKE (x:R):(xH x.n).mag.length<=x.num.length:=by refine z4 ?_;rw[R.n,vC];exact xE _
theorem s86 (x:R)(hx:x.num.length<2^40):zM 50 [rv x] (.int .i64 (fun _=>xJ x.q)):=by
 refine sF Tryz.f50 ?_;have c1:=s147 x hx;have hl:=zKE x;have c2:=s146 (xH x.n) (by omega);rw[k9,<-zJH] at c2;generalize xJ x.q=s at *
 generalize xH x.n=W at *
 obtain⟨neg,num,den⟩:=x;cbv;refine cA c1 ?_;cbv;refine cA c2 ?_;cbv
 (refine rC ?_;cbv)
 exact lR
theorem s191 (x y:R)(hx:x.sz (2^34))(hy:y.sz (2^34)):zM 132 [rv x,rv y] (.tup [zv (xH (x.n*y.d)),zv (xH (y.n*x.d))]):=by
 refine sF Tryz.f132 ?_;have h1:=hx.n;have h2:=hx.d;have h3:=hy.n;have h4:=hy.d;have h5:=uD x.den;have h6:=uD y.den;have h7:=zKE x;have h8:=zKE y;have cux:=s195 x (by omega);have cuy:=s195 y (by omega);have csx:=s147 x (by omega);have csy:=s147 y (by omega);have cm1:=s220 (xH x.n) ⟨false,y9 y.den⟩ (by omega) (show (y9 y.den).length<_ by omega);have cm2:=s220 (xH y.n) ⟨false,y9 x.den⟩ (by omega) (show (y9 x.den).length<_ by omega);have e1:Z.v ⟨false,y9 y.den⟩=(y.d:Int):=by rw[<-vN];rfl
 have e2:Z.v ⟨false,y9 x.den⟩=(x.d:Int):=by rw[<-vN];rfl
 rw[k9,e1] at cm1;rw[k9,e2] at cm2;generalize xH (x.n*(y.d:Int))=W1 at *
 generalize xH (y.n*(x.d:Int))=W2 at *
 generalize xH x.n=X at *
 generalize xH y.n=Y at *
 generalize y9 x.den=ux at *
 generalize y9 y.den=uy at *
 obtain⟨a,b,c⟩:=x;obtain⟨a',b',c'⟩:=y;cbv;refine zZ 4 (by cbv) ?_;cbv;refine dA cux ?_;cbv;refine dA cuy ?_;cbv;refine zZ 10 (by cbv) ?_;cbv;refine dA csx ?_;cbv;refine dA cm1 ?_;cbv;refine dA csy ?_;cbv;refine dA cm2 ?_;cbv
 (refine rC ?_;cbv)
 exact okA
theorem aQ (x y:R)(hx:x.sz (2^34))(hy:y.sz (2^34)):(xH (x.n*(y.d:Int))).mag.length<=2^36:=by have h1:=hx.n;have h4:=hy.d;have h6:=uD y.den;refine Nat.le_trans (z4 (k:=x.num.length+(y9 y.den).length) ?_) (by omega);rw[Int.natAbs_mul,R.n,vC,Int.natAbs_natCast,<-vN];exact kD (xE _) (xE _)
theorem s165 (x y:R)(hx:x.sz (2^34))(hy:y.sz (2^34)):zM 88 [rv x,rv y] (.int .i64 (fun _=>fS x.q y.q)):=by
 refine sF Tryz.f88 ?_;have h1:=hx.n;have h3:=hy.n;have h5:=aQ x y hx hy;have h6:=aQ y x hy hx;have cx:=s86 x (by omega);have cy:=s86 y (by omega);have cc:=s191 x y hx hy;have ci:=s212 _ _ (Nat.lt_of_le_of_lt h5 (by omega)) (Nat.lt_of_le_of_lt h6 (by omega));rw[k9,k9,<-zN9] at ci;have k1:xJ x.q<xJ y.q->fS x.q y.q=-1:=by
  (intro h;have:x.q<y.q:=by unfold xJ at h;grind);simp[fS,this]
 have k2:xJ y.q<xJ x.q->fS x.q y.q=1:=by
  (intro h;have h7:y.q<x.q:=by unfold xJ at h;grind);have h8:¬x.q<y.q:=by grind
  simp[fS,h7,h8]
 generalize fS x.q y.q=C at *
 generalize xJ x.q=s at *
 generalize xJ y.q=t at *
 generalize xH (x.n*(y.d:Int))=W1 at *
 generalize xH (y.n*(x.d:Int))=W2 at *
 obtain⟨a,b,c⟩:=x;obtain⟨a',b',c'⟩:=y;obtain⟨p1,p2⟩:=W1;obtain⟨q1,q2⟩:=W2;cbv;refine zZ 4 (by cbv) ?_;cbv;refine dA cx ?_;cbv;refine dA cy ?_;cbv;refine zF (fun h=>?_) (fun h=>?_)
 ·cbv;refine cA cc ?_;cbv;refine cA ci ?_;cbv
  (refine rC ?_;cbv)
  exact lR
 ·cbv;refine zF (fun h'=>?_) (fun h'=>?_)
  ·cbv
   (refine rC ?_;cbv)
   exact zC (k1 h').symm
  ·cbv
   (refine rC ?_;cbv)
   exact zC (k2 (by omega)).symm
theorem s138 (x y:R)(hx:x.sz (2^34))(hy:y.sz (2^34)):zM 157 [rv x,rv y] (rv (zS (x.q+y.q))):=by
 refine sF Tryz.f157 ?_;have h1:=hx.n;have h2:=hx.d;have h3:=hy.n;have h4:=hy.d;have h5:=aQ x y hx hy;have h6:=aQ y x hy hx;have h7:=uD x.den;have h8:=uD y.den;have cc:=s191 x y hx hy;have ca:=s192 _ _ (Nat.lt_of_le_of_lt h5 (by omega)) (Nat.lt_of_le_of_lt h6 (by omega));rw[k9,k9] at ca;have cux:=s195 x (by omega);have cuy:=s195 y (by omega);have cm:=s194 (y9 x.den) (y9 y.den) (by omega) (by omega);have hml:=gB (y9 x.den) (y9 y.den);rw[vN,vN] at cm hml;have hsl:(xH (x.n*(y.d:Int)+y.n*(x.d:Int))).mag.length<2^38:=by
  (obtain⟨k,hk⟩:∃ k,k=68719476736:=⟨_,rfl⟩;have h5':(xH (x.n*(y.d:Int))).mag.length<=k:=by rw[hk];exact h5);have h6':(xH (y.n*(x.d:Int))).mag.length<=k:=by rw[hk];exact h6
  (have e1:(x.n*(y.d:Int)).natAbs<B^k:=by have:=xE (xH (x.n*(y.d:Int))).mag;rw[show val (xH (x.n*(y.d:Int))).mag=(x.n*(y.d:Int)).natAbs from zK _] at this;exact Nat.lt_of_lt_of_le this (Nat.pow_le_pow_right xN h5'));have e2:(y.n*(x.d:Int)).natAbs<B^k:=by have:=xE (xH (y.n*(x.d:Int))).mag;rw[show val (xH (y.n*(x.d:Int))).mag=(y.n*(x.d:Int)).natAbs from zK _] at this;exact Nat.lt_of_lt_of_le this (Nat.pow_le_pow_right xN h6')
  have e3:=Int.natAbs_add_le (x.n*(y.d:Int)) (y.n*(x.d:Int));have e4:B^k*2<=B^k*B:=Nat.mul_le_mul_left _ (by decide);have e5:(zD (x.n*(y.d:Int)+y.n*(x.d:Int)).natAbs).length<=k+1:=z4 (by rw[Nat.pow_succ B k];generalize B^k=P at *;omega);show (zD (x.n*(y.d:Int)+y.n*(x.d:Int)).natAbs).length<2^38;omega
 have cq:=s193 (xH (x.n*(y.d:Int)+y.n*(x.d:Int))).neg (xH (x.n*(y.d:Int)+y.n*(x.d:Int))).mag (zD (x.d*y.d)) hsl (by omega) (by rw[zK];exact Nat.mul_ne_zero x.d_ne y.d_ne);have e6:sgn (xH (x.n*(y.d:Int)+y.n*(x.d:Int))).neg (val (xH (x.n*(y.d:Int)+y.n*(x.d:Int))).mag)=x.n*(y.d:Int)+y.n*(x.d:Int):=k9 _;rw[e6,zK,<-zKD] at cq;clear e6 hsl hml h5 h6;generalize zS (x.q+y.q)=W at *
 generalize zD (x.d*y.d)=M at *
 generalize xH (x.n*(y.d:Int)+y.n*(x.d:Int))=S at *
 generalize xH (x.n*(y.d:Int))=W1 at *
 generalize xH (y.n*(x.d:Int))=W2 at *
 generalize y9 x.den=ux at *
 generalize y9 y.den=uy at *
 obtain⟨a,b,c⟩:=x;obtain⟨a',b',c'⟩:=y;obtain⟨p1,p2⟩:=W1;obtain⟨q1,q2⟩:=W2;obtain⟨s1,s2⟩:=S;cbv;refine cA cc ?_;cbv;refine cA ca ?_;cbv;refine zZ 10 (by cbv) ?_;cbv;refine dA cux ?_;cbv;refine dA cuy ?_;cbv;refine dA cm ?_;cbv;refine dA cq ?_;cbv
 (refine rC ?_;cbv)
 exact okA
theorem s199 (x y:R)(hx:x.sz (2^34))(hy:y.sz (2^34)):zM 98 [rv x,rv y] (rv (zS (x.q*y.q))):=by
 refine sF Tryz.f98 ?_;have h1:=hx.n;have h2:=hx.d;have h3:=hy.n;have h4:=hy.d;have h7:=uD x.den;have h8:=uD y.den;have cux:=s195 x (by omega);have cuy:=s195 y (by omega);have cm:=s194 (y9 x.den) (y9 y.den) (by omega) (by omega);have hml:=gB (y9 x.den) (y9 y.den);rw[vN,vN] at cm hml;have cn:=s194 x.num y.num (by omega) (by omega);have hnl:=gB x.num y.num;have cq:=s193 (x.neg != y.neg) (zD (val x.num*val y.num)) (zD (x.d*y.d)) (by omega) (by omega) (by rw[zK];exact Nat.mul_ne_zero x.d_ne y.d_ne);rw[zK,zK,<-zFF] at cq;have e:mkRat (sgn x.neg (val x.num)*sgn y.neg (val y.num)) (x.d*y.d)=x.q*y.q:=(zO2 x y).symm;rw[e] at cq;have hb:(x.neg != y.neg)=!decide (x.neg=y.neg):=by cases x.neg <;> cases y.neg <;> rfl
 clear hml hnl e;generalize zS (x.q*y.q)=W at *
 generalize zD (x.d*y.d)=M at *
 generalize zD (val x.num*val y.num)=P at *
 generalize y9 x.den=ux at *
 generalize y9 y.den=uy at *
 obtain⟨a,b,c⟩:=x;obtain⟨a',b',c'⟩:=y;simp only at *
 generalize (a != a')=nb at *
 cbv;refine zZ 16 (by cbv) ?_;cbv;refine dA cn ?_;cbv;refine dA cux ?_;cbv;refine dA cuy ?_;cbv;refine dA cm ?_;cbv;refine cT (by exact⟨kM hb,lR,lR,trivial⟩) cq rfl ?_;cbv
 (refine rC ?_;cbv)
 exact okA
theorem ty33:ty 24=.sli 1 4 [.int .u32 (fun _=>0)]:=by cbv
theorem a6 (l:List UInt32)(k:Nat):val (l.drop k)=(l.getD k 0).toNat+B*val (l.drop (k+1)):=by rcases Nat.lt_or_ge k l.length with h|h;{exact uC h};{rw[List.drop_of_length_le h,List.drop_of_length_le (by omega)];simp[List.getElem?_eq_none h,val]}
theorem gM (l:List UInt32)(m:Nat):val l=val (l.take m)+B^m*val (l.drop m):=by rcases Nat.lt_or_ge m l.length with h|h;{exact rL m (by omega)};{rw[List.drop_of_length_le h,List.take_of_length_le h];simp[val]}
theorem iI {a b:List UInt32}{m:Nat}(h:val (a.drop m)<val (b.drop m)):val a<val b:=by rw[gM a m,gM b m];have h1:=xS a m;have h2:=Nat.mul_le_mul_left (B^m) (show val (a.drop m)+1<=val (b.drop m) from h);rw[Nat.mul_add] at h2;omega
theorem s154 (a:List UInt32)(i:Nat)(ha:a.length<2^40):zM 120 [nat a,.int .i64 (fun _=>(i:Int))] (.int .u32 (fun _=>((a.getD i 0).toNat:Int))):=by
 refine sF Tryz.f120 ?_;generalize hx:a.getD i 0=x;cbv;refine zF (fun h=>?_) (fun h=>?_)
 ·cbv;refine y5 i om om ?_;rw[hx];cbv
  (refine rC ?_;cbv)
  exact lR
 ·cbv
  (refine rC ?_;cbv)
  refine zC ?_;have:a.length<=i:=om;rw[<-hx];simp[List.getElem?_eq_none this]
theorem sR (l:List UInt32)(hl:l.length<2^41):zM 121 [nat l] (nat (zD (val l))):=by
 refine sF Tryz.f121 ?_;have fin:∀ n,n<=l.length->val (l.take n)=val l->(n=0\/∃ m,n=m+1/\l.getD m 0≠0)->l.take n=zD (val l):=by intro n hn hv h;rcases h with rfl|⟨m,rfl,h⟩;{rw[<-hv];simp[val,z6]};{rw[<-hv,aL (by rw[jC l (by omega),rE];simpa using h)]}
 generalize hW:zD (val l)=W at *
 cbv;refine yB (σ:=Nat) (fun n=>⟨[(0,nat l),(2,.nil),(3,.int .i64 (fun _=>(n:Int)))],[]⟩) (fun n=>n<=l.length/\val (l.take n)=val l) (fun n=>n) l.length ⟨Nat.le_refl _,by simp⟩ (.le ?_ trivial rfl) ?_;{cbv;exact⟨lR,lR,zC (by simp[zG]),trivial⟩};intro n hn;have done:(n=0\/∃ m,n=m+1/\l.getD m 0≠0)->((lm l).take ((n:Int)).toNat).drop (Int.toNat 0)=lm W:=fun h=>by show ((lm l).take ((n:Int)).toNat).drop 0=lm W;rw[List.drop_zero,Int.toNat_natCast,zFX,fin n hn.1 hn.2 h]
 have hwl:W.length<=l.length:=by rw[<-hW];exact zT l
 cbv;refine yG (fun h=>?_) (fun h=>?_)
 ·(try dsimp only [zJ] at *)
  obtain⟨m,rfl⟩:∃ m,n=m+1:=⟨n-1,by omega⟩;cbv;refine⟨zE om om,y5 m om om ?_⟩;cbv;refine zF (fun h2=>?_) (fun h2=>?_)
  ·cbv;refine⟨zE om om,m,⟨om,?_⟩,om,.le ?_ trivial rfl⟩
   ·(have e:l.getD m 0=0:=by have:(l.getD m 0).toNat=0:=om;exact UInt32.toNat_inj.1 this);rw[<-hn.2,jC l (by omega),e,oH]
   {cbv;exact⟨lR,lR,zC om,trivial⟩}
  ·(have e:l.getD m 0≠0:=fun e=>by (try dsimp only [zJ] at *);rw[e] at h2;exact h2 rfl);have hd:=done (.inr ⟨m,rfl,e⟩)
   cbv;refine⟨aD (Int.le_refl _) om om,sY l,?_⟩
   (try dsimp only [zJ] at *)
   rw[hd];refine wO ty34 rfl rfl rfl rfl rfl (sY W) (yJ om (by simp only[List.length_nil];(try dsimp only [zJ] at *) <;> (try simp only[zG] at *) <;> omega)) rfl ?_;cbv;refine retW (.frz 22 rfl rfl ?_ ?_) rfl ?_ rfl;{cbv;exact⟨yL (by simp),yL (by simp),trivial⟩};{exact trivial};{exact zX (by simp)}
 ·have h0:n=0:=om;have hd:=done (.inl h0);cbv;refine⟨aD (Int.le_refl _) om om,sY l,?_⟩
  (try dsimp only [zJ] at *)
  rw[hd];refine wO ty34 rfl rfl rfl rfl rfl (sY W) (yJ om (by simp only[List.length_nil];(try dsimp only [zJ] at *) <;> (try simp only[zG] at *) <;> omega)) rfl ?_;cbv;refine retW (.frz 22 rfl rfl ?_ ?_) rfl ?_ rfl;{cbv;exact⟨yL (by simp),yL (by simp),trivial⟩};{exact trivial};{exact zX (by simp)}
theorem s149 (x:Nat)(hx:x<B*B):zM 117 [.int .u64 (fun _=>(x:Int))] (nat (zD x)):=by
 refine sF Tryz.f117 ?_;have h2:x/B<B:=Nat.div_lt_of_lt_mul hx;have hv:val [UInt32.ofNat (x%B),UInt32.ofNat (x/B)]=x:=by simp only[val,gH];rw[UInt32.toNat_ofNat',Nat.mod_eq_of_lt (show x/B<2^32 from h2),Nat.mul_zero,Nat.add_zero];exact Nat.mod_add_div x B
 have c1:=sR [UInt32.ofNat (x%B),UInt32.ofNat (x/B)] (by simp);rw[hv] at c1;have he:([[.int .u32 (nx .u32 (x:Int))],[.int .u32 (nx .u32 (ishr .u64 (x:Int) 32))]]:List (List D))=lm [UInt32.ofNat (x%B),UInt32.ofNat (x/B)]:=by
  rw[fH];simp only[lm,List.map_cons,List.map_nil,gH,xB,Nat.mod_eq_of_lt h2,qY,B] at *
  congr 3 <;> congr 1 <;> omega
 generalize zD x=W at *
 cbv;refine⟨wP (by omega),?_⟩;refine wA rfl (by exact⟨zX he,trivial⟩) c1 rfl ?_;cbv
 (refine rC ?_;cbv)
 exact lR
theorem s206 (l:List UInt32)(hl:l.length<2^40):zM 150 [nat l] (.tup [.int .u64 (fun _=>((if val l<B*B then val l else 0:Nat):Int)),.bool (fun _=>decide (val l<B*B))]):=by
 refine sF Tryz.f150 ?_;have hl':=Nat.lt_of_le_of_lt (zT l) hl;have c1:=sR l (by omega);have hv:=zK (val l);have h2:=@len2 (val l);generalize zD (val l)=p at *
 generalize hr:(if val l<B*B then val l else 0:Nat)=r;generalize hb:decide (val l<B*B)=b;generalize val l=v at *
 have hin:p.length<=2->r=val p/\b=true:=fun h=>by rw[<-hr,<-hb,if_pos (h2.1 h),hv];exact⟨rfl,decide_eq_true (h2.1 h)⟩
 cbv;refine cA c1 ?_;cbv;refine zF (fun h=>?_) (fun h=>?_)
 ·have h0:p.length=0:=om;obtain⟨e1,e2⟩:=hin (by omega);cbv
  (refine rC ?_;cbv)
  refine⟨zC ?_,zU e2,trivial⟩;rw[e1,List.eq_nil_of_length_eq_zero h0];rfl
 ·cbv;refine zF (fun h3=>?_) (fun h3=>?_)
  ·have h0:p.length=1:=om;obtain⟨e1,e2⟩:=hin (by omega);cbv;refine y5 0 rfl (by omega) ?_;cbv
   (refine rC ?_;cbv)
   refine⟨zC ?_,zU e2,trivial⟩;rw[e1]
   match p,h0 with
   |[x],_ =>
    have:=yD x;show nx .u64 ((x.toNat:Nat):Int)=((x.toNat+B*0:Nat):Int);rw[xG (by simp only[B] at this;omega)];simp
  ·cbv;refine zF (fun h4=>?_) (fun h4=>?_)
   ·have h0:p.length=2:=om;obtain⟨e1,e2⟩:=hin (by omega);cbv;refine zZ 10 (by cbv) ?_;cbv;refine y5 0 rfl (by omega) ?_;cbv;refine y5 1 rfl (by omega) ?_;cbv;refine⟨wP (by omega),?_⟩
    (refine rC ?_;cbv)
    refine⟨zC ?_,zU e2,trivial⟩;rw[e1]
    match p,h0 with
    |[x,y],_ =>
     have h5:=yD x;have h6:=yD y;show ior .u64 (nx .u64 ((x.toNat:Nat):Int)) (ishl .u64 (nx .u64 ((y.toNat:Nat):Int)) 32)=((x.toNat+B*(y.toNat+B*0):Nat):Int);rw[xG (n:=x.toNat) (by simp only[B] at h5;omega),or2 h5 h6];rfl
   ·have h0:¬p.length<=2:=om;have h5:¬v<B*B:=fun e=>h0 (h2.2 e);cbv
    (refine rC ?_;cbv)
    exact⟨zC (by rw[<-hr,if_neg h5];rfl),zL (by rw[<-hb];exact decide_eq_false h5),trivial⟩
theorem s205 (a b:List UInt32)(ha:a.length<2^40)(hb:b.length<2^40):zM 153 [nat a,nat b] (.int .i64 (fun _=>vJ (val a) (val b))):=by
 refine sF Tryz.f153 ?_;have hlt:val a<val b->vJ (val a) (val b)=-1:=nT;have hgt:val b<val a->vJ (val a) (val b)=1:=nU;have heq:val a=val b->vJ (val a) (val b)=0:=fun h=>by rw[h,zBH]
 generalize hC:vJ (val a) (val b)=C at *
 have hmax:imax ((lm a).length:Int) ((lm b).length:Int)=((max a.length b.length:Nat):Int):=by unfold imax;rw[zG,zG];split <;> omega
 cbv;refine⟨zE (by (try dsimp only [zJ] at *);rw[hmax];omega) (by (try dsimp only [zJ] at *);rw[hmax];omega),?_⟩;refine yB (σ:=Nat) (fun n=>⟨[(0,nat a),(1,nat b),(5,.int .i64 (fun _=>(n:Int)-1))],[]⟩) (fun n=>n<=max a.length b.length/\val (a.drop n)=val (b.drop n)) (fun n=>n) (max a.length b.length) ⟨Nat.le_refl _,by rw[List.drop_of_length_le (by omega),List.drop_of_length_le (by omega)]⟩ (.le ?_ trivial rfl) ?_;{cbv;exact⟨lR,lR,zC (by (try dsimp only [zJ] at *);rw[hmax]),trivial⟩};intro n hn;cbv;refine zF (fun h=>?_) (fun h=>?_)
 ·(try dsimp only [zJ] at *)
  (obtain⟨m,rfl⟩:∃ m,n=m+1:=⟨n-1,by omega⟩;have hm:((m+1:Nat):Int)-1=(m:Int):=by omega);have da:=a6 a m
  rw[hn.2] at da;have db:=a6 b m;have ca:=s154 a m ha;have cb:=s154 b m hb;cbv;refine wA rfl (by exact⟨lR,zC hm,trivial⟩) ca rfl ?_;cbv;refine wA rfl (by exact⟨lR,zC hm,trivial⟩) cb rfl ?_;cbv;refine zF (fun h2=>?_) (fun h2=>?_)
  ·cbv
   (refine rC ?_;cbv)
   exact zC (hlt (iI (m:=m) om)).symm
  ·cbv;refine wA rfl (by exact⟨lR,zC hm,trivial⟩) ca rfl ?_;cbv;refine wA rfl (by exact⟨lR,zC hm,trivial⟩) cb rfl ?_;cbv;refine zF (fun h3=>?_) (fun h3=>?_)
   ·cbv
    (refine rC ?_;cbv)
    exact zC (hgt (iI (m:=m) om)).symm
   {cbv;refine⟨zE om om,m,⟨by omega,by (try dsimp only [zJ] at *);omega⟩,by omega,.le ?_ trivial rfl⟩;cbv;exact⟨lR,lR,zC om,trivial⟩}
 ·have h0:n=0:=om;subst h0;cbv
  (refine rC ?_;cbv)
  exact zC (heq (by simpa using hn.2)).symm
theorem s130 (a b:List UInt32)(ha:a.length<2^40)(hb:b.length<2^40):zM 148 [nat a,nat b] (.bool (fun _=>decide (a=b))):=by
 refine sF Tryz.f148 ?_;generalize hC:decide (a=b)=C at *
 cbv;refine zF (fun h=>?_) (fun h=>?_)
 ·(have hl:a.length=b.length:=by (try dsimp only [zJ] at *);simp only[zG] at h;omega);cbv
  refine yB (σ:=Nat) (fun n=>⟨[(0,nat a),(1,nat b),(5,.int .i64 (fun _=>(n:Int)))],[]⟩) (fun n=>n<=a.length/\a.take n=b.take n) (fun n=>a.length-n) 0 ⟨Nat.zero_le _,by simp⟩ (.le ?_ trivial rfl) ?_;{cbv;exact okA};intro n hn;cbv;refine zF (fun h2=>?_) (fun h2=>?_)
  ·have hlt:n<a.length:=om;cbv;refine zZ 9 (by cbv) ?_;cbv;refine y5 n om om ?_;cbv;refine y5 n om om ?_;cbv;refine zF (fun h3=>?_) (fun h3=>?_);{cbv;refine⟨zE om om,n+1,⟨hlt,?_⟩,by show a.length-(n+1)<a.length-n;omega,.le ?_ trivial rfl⟩;{have e:a.getD n 0=b.getD n 0:=UInt32.toNat_inj.1 om;rw[jC a hlt,jC b (by omega),hn.2,e]};{cbv;exact⟨lR,lR,zC om,trivial⟩}}
   ·cbv
    (refine rC ?_;cbv)
    refine zL ?_;rw[<-hC];exact decide_eq_false fun e=>h3 (by rw[e])
  ·have hn0:n=a.length:=om;subst hn0;cbv
   (refine rC ?_;cbv)
   refine zU ?_;rw[<-hC];refine decide_eq_true ?_;have:=hn.2;rwa [List.take_of_length_le (Nat.le_refl _),List.take_of_length_le (by omega)] at this
 ·cbv
  (refine rC ?_;cbv)
  refine zL ?_;rw[<-hC];exact decide_eq_false fun e=>h (by rw[e])
theorem j5 (d:D):Wid 1 (fun _=>[[d]]):=⟨fun e he=>by simp at he;subst he;rfl⟩
theorem gA (out:List UInt32)(S:Nat):lm out++[[.int .u32 (nx .u32 ((S:Nat):Int))]]=lm (out++[UInt32.ofNat S]):=by rw[<-zG9];congr 1;simp only[lm,List.map_cons,List.map_nil,xB,qY,B];congr 2
theorem uR (l:List UInt32)(S:Nat):val (l++[UInt32.ofNat S])=val l+B^l.length*(S%B):=by rw[zB8,xB]
theorem s156 (a b:List UInt32)(ha:a.length<2^40)(hb:b.length<2^40):zM 123 [nat a,nat b] (nat (zD (val a+val b))):=by
 refine sF Tryz.f123 ?_;generalize hW:zD (val a+val b)=W;cbv;refine yB (σ:=Nat×Nat×List UInt32) (fun s=>⟨[(0,nat a),(1,nat b),(5,.osl 35 1 (fun _=>0) (fun _=>s.1)),(6,.int .u64 (fun _=>(s.2.1:Int))),(7,.int .i64 (fun _=>(s.1:Int)))],[(35,.arr 1 (fun _=>lm s.2.2))]⟩)
  (fun s=>s.1<=max a.length b.length/\s.2.1<2/\s.2.2.length=s.1/\val s.2.2+B^s.1*s.2.1=val (a.take s.1)+val (b.take s.1)) (fun s=>max a.length b.length-s.1)
  (0,0,[]) ⟨Nat.zero_le _,by show (0:Nat)<2;omega,rfl,by simp[val]⟩ (.trans (.adoptT 35 1 5 rfl rfl) (.le ?_ ?_ rfl)) ?_
 {cbv;exact okA};{cbv;exact⟨zA rfl,trivial⟩};intro s hs;obtain⟨h1,h2,h3,h4⟩:=hs;generalize s.1=i at *
 generalize s.2.1=c at *
 generalize s.2.2=out at *
 have ca:=s154 a i ha;have cb:=s154 b i hb;have hx:=yD (a.getD i 0);have hy:=yD (b.getD i 0);simp only[B] at hx hy;cbv;refine yG (fun h5=>?_) (fun h5=>?_)
 ·(have hi:i<a.length:=om;cbv;refine wA rfl okA ca rfl ?_;cbv;refine wA rfl okA cb rfl ?_;have hS:nx .u64 ((c:Int)+nx .u64 (nx .u64 (((a.getD i 0).toNat:Nat):Int)+nx .u64 (((b.getD i 0).toNat:Nat):Int)))=((c+((a.getD i 0).toNat+(b.getD i 0).toNat):Nat):Int):=by simp only[wT];omega);cbv
  refine wO ty33 rfl rfl rfl (by rw[zG,h3]) rfl (j5 _) (yJ (Int.natCast_nonneg _) (by show (((lm out).length+1:Nat):Int)*4<=70368744177664;rw[zG,h3];omega)) rfl ?_;cbv;refine⟨wP (by omega),zE om om,(i+1,(c+((a.getD i 0).toNat+(b.getD i 0).toNat))/B,out++[UInt32.ofNat (c+((a.getD i 0).toNat+(b.getD i 0).toNat))]),⟨by show i+1<=max a.length b.length;omega,?_,by simp[h3],?_⟩,by show max a.length b.length-(i+1)<max a.length b.length-i;omega,.le ?_ ?_ rfl⟩;{show (c+((a.getD i 0).toNat+(b.getD i 0).toNat))/B<2;rw[Nat.div_lt_iff_lt_mul xN];simp only[B];omega}
  ·show val (out++[_])+B^(i+1)*((c+((a.getD i 0).toNat+(b.getD i 0).toNat))/B)=val (a.take (i+1))+val (b.take (i+1));rw[uR,h3,zR a,zR b,Nat.pow_succ];have hdm:=Nat.mod_add_div (c+((a.getD i 0).toNat+(b.getD i 0).toNat)) B;generalize (c+((a.getD i 0).toNat+(b.getD i 0).toNat))%B=lo at *
   generalize (c+((a.getD i 0).toNat+(b.getD i 0).toNat))/B=hi at *
   generalize (a.getD i 0).toNat=x at *
   generalize (b.getD i 0).toNat=y at *
   generalize B^i=P at *
   (have e1:P*lo+P*B*hi=P*c+P*x+P*y:=by rw[Nat.mul_assoc,<-Nat.mul_add,hdm,Nat.mul_add,Nat.mul_add];omega);omega
  ·cbv;refine⟨lR,lR,z5 rfl (by show (lm out).length+1=i+1;rw[zG,h3]),zC ?_,zC om,trivial⟩
   (try dsimp only [zJ] at *)
   rw[hS];exact fH _
  ·cbv;refine⟨zA ?_,trivial⟩
   (try dsimp only [zJ] at *)
   rw[hS];exact gA out _
 ·cbv;refine zF (fun h6=>?_) (fun h6=>?_)
  ·(have hi:i<b.length:=om;cbv;refine wA rfl okA ca rfl ?_;cbv;refine wA rfl okA cb rfl ?_;have hS:nx .u64 ((c:Int)+nx .u64 (nx .u64 (((a.getD i 0).toNat:Nat):Int)+nx .u64 (((b.getD i 0).toNat:Nat):Int)))=((c+((a.getD i 0).toNat+(b.getD i 0).toNat):Nat):Int):=by simp only[wT];omega);cbv
   refine wO ty33 rfl rfl rfl (by rw[zG,h3]) rfl (j5 _) (yJ (Int.natCast_nonneg _) (by show (((lm out).length+1:Nat):Int)*4<=70368744177664;rw[zG,h3];omega)) rfl ?_;cbv;refine⟨wP (by omega),zE om om,(i+1,(c+((a.getD i 0).toNat+(b.getD i 0).toNat))/B,out++[UInt32.ofNat (c+((a.getD i 0).toNat+(b.getD i 0).toNat))]),⟨by show i+1<=max a.length b.length;omega,?_,by simp[h3],?_⟩,by show max a.length b.length-(i+1)<max a.length b.length-i;omega,.le ?_ ?_ rfl⟩;{show (c+((a.getD i 0).toNat+(b.getD i 0).toNat))/B<2;rw[Nat.div_lt_iff_lt_mul xN];simp only[B];omega}
   ·show val (out++[_])+B^(i+1)*((c+((a.getD i 0).toNat+(b.getD i 0).toNat))/B)=val (a.take (i+1))+val (b.take (i+1));rw[uR,h3,zR a,zR b,Nat.pow_succ];have hdm:=Nat.mod_add_div (c+((a.getD i 0).toNat+(b.getD i 0).toNat)) B;generalize (c+((a.getD i 0).toNat+(b.getD i 0).toNat))%B=lo at *
    generalize (c+((a.getD i 0).toNat+(b.getD i 0).toNat))/B=hi at *
    generalize (a.getD i 0).toNat=x at *
    generalize (b.getD i 0).toNat=y at *
    generalize B^i=P at *
    (have e1:P*lo+P*B*hi=P*c+P*x+P*y:=by rw[Nat.mul_assoc,<-Nat.mul_add,hdm,Nat.mul_add,Nat.mul_add];omega);omega
   ·cbv;refine⟨lR,lR,z5 rfl (by show (lm out).length+1=i+1;rw[zG,h3]),zC ?_,zC om,trivial⟩
    (try dsimp only [zJ] at *)
    rw[hS];exact fH _
   ·cbv;refine⟨zA ?_,trivial⟩
    (try dsimp only [zJ] at *)
    rw[hS];exact gA out _
  ·(have hi1:a.length<=i:=om;have hi2:b.length<=i:=om;rw[List.take_of_length_le hi1,List.take_of_length_le hi2] at h4;have cm:=sR (out++[UInt32.ofNat c]) (by simp;omega);have hv:val (out++[UInt32.ofNat c])=val a+val b:=by rw[uR,h3,Nat.mod_eq_of_lt (show c<B by simp only[B];omega)];exact h4);rw[hv,hW] at cm
   cbv;refine wO ty33 rfl rfl rfl (by rw[zG,h3]) rfl (j5 _) (yJ (Int.natCast_nonneg _) (by show (((lm out).length+1:Nat):Int)*4<=70368744177664;rw[zG,h3];omega)) rfl ?_;cbv;refine fO (.frz 42 rfl rfl ?_ ?_) rfl (by refine⟨zX ?_,trivial⟩;exact (List.take_of_length_le (by show (lm out++[_]).length<=(lm out).length+1;simp)).trans (gA out c)) cm rfl ?_;{cbv;exact⟨yL (by show 0+((lm out).length+1)<=(lm out++[_]).length;simp),trivial⟩};{exact trivial};cbv
   (refine rC ?_;cbv)
   exact lR
theorem s157 (a b:List UInt32)(ha:a.length<2^40)(hb:b.length<2^40):zM 124 [nat a,nat b] (.tup [nat (zD (val a-val b)),.int .i64 (fun _=>if val b<=val a then 0 else 2)]):=by
 refine sF Tryz.f124 ?_;have cc:=s205 a b ha hb;have hcl:vJ (val a) (val b)<0↔val a<val b:=by unfold vJ;split;{omega};{split <;> omega}
 generalize vJ (val a) (val b)=C at *
 have hlt:val a<val b->zD (val a-val b)=[]/\(if val b<=val a then (0:Int) else 2)=2:=fun h=>⟨by rw[Nat.sub_eq_zero_of_le (by omega),z6],by rw[if_neg (by omega)]⟩;have hge:val b<=val a->(if val b<=val a then (0:Int) else 2)=0:=fun h=>if_pos h;generalize hW:zD (val a-val b)=W at *
 generalize (if val b<=val a then (0:Int) else 2)=E at *
 cbv;refine cA cc ?_;cbv;refine zF (fun h=>?_) (fun h=>?_)
 ·obtain⟨e1,e2⟩:=hlt (hcl.1 h);cbv
  (refine rC ?_;cbv)
  exact⟨zN (by rw[e1];rfl),zC (by rw[e2]),trivial⟩
 have hba:val b<=val a:=by rcases Nat.lt_or_ge (val a) (val b) with h1|h1;{exact absurd (hcl.2 h1) h};{exact h1}
 have hE:=hge hba;cbv;refine yB (σ:=Nat×Nat×List UInt32) (fun s=>⟨[(0,nat a),(1,nat b),(6,.osl 42 1 (fun _=>0) (fun _=>s.1)),(7,.int .u64 (fun _=>(s.2.1:Int))),(8,.int .i64 (fun _=>(s.1:Int)))],[(42,.arr 1 (fun _=>lm s.2.2))]⟩)
  (fun s=>s.1<=a.length/\s.2.1<2/\s.2.2.length=s.1/\val s.2.2+val (b.take s.1)=val (a.take s.1)+B^s.1*s.2.1) (fun s=>a.length-s.1)
  (0,0,[]) ⟨Nat.zero_le _,by show (0:Nat)<2;omega,rfl,by simp[val]⟩ (.trans (.adoptT 42 1 6 rfl rfl) (.le ?_ ?_ rfl)) ?_
 {cbv;exact okA};{cbv;exact⟨zA rfl,trivial⟩};intro s hs;obtain⟨h1,h2,h3,h4⟩:=hs;generalize s.1=i at *
 generalize s.2.1=c at *
 generalize s.2.2=out at *
 have ca:=s154 a i ha;have cb:=s154 b i hb;have hx:=yD (a.getD i 0);have hy:=yD (b.getD i 0);simp only[B] at hx hy;cbv;refine zF (fun h5=>?_) (fun h5=>?_)
 ·(have hi:i<a.length:=om;have hX:nx .u64 (((a.getD i 0).toNat:Nat):Int)=(((a.getD i 0).toNat:Nat):Int):=xG (by omega);have hY:nx .u64 (nx .u64 (((b.getD i 0).toNat:Nat):Int)+(c:Int))=(((b.getD i 0).toNat+c:Nat):Int):=by simp only[wT];omega);cbv
  refine wA rfl okA ca rfl ?_;cbv;refine wA rfl okA cb rfl ?_;cbv;refine zF (fun h6=>?_) (fun h6=>?_)
  ·(try dsimp only [zJ] at *)
   (rw[hX,hY] at h6;have h6':(a.getD i 0).toNat<(b.getD i 0).toNat+c:=Int.ofNat_lt.1 h6;clear h6;have hZ:nx .u64 (nx .u64 (nx .u64 (((a.getD i 0).toNat:Nat):Int)+4294967296)-nx .u64 (nx .u64 (((b.getD i 0).toNat:Nat):Int)+(c:Int)))=(((a.getD i 0).toNat+4294967296-((b.getD i 0).toNat+c):Nat):Int):=by rw[hX,hY];simp only[wT];omega);cbv
   refine wO ty33 rfl rfl rfl (by rw[zG,h3]) rfl (j5 _) (yJ (Int.natCast_nonneg _) (by show (((lm out).length+1:Nat):Int)*4<=70368744177664;rw[zG,h3];omega)) rfl ?_;cbv;refine⟨zE om om,(i+1,1,out++[UInt32.ofNat ((a.getD i 0).toNat+4294967296-((b.getD i 0).toNat+c))]),⟨hi,by show 1<2;omega,by simp[h3],?_⟩,by show a.length-(i+1)<a.length-i;omega,.le ?_ ?_ rfl⟩
   ·show val (out++[_])+val (b.take (i+1))=val (a.take (i+1))+B^(i+1)*1;rw[uR,h3,zR a,zR b,Nat.pow_succ,Nat.mod_eq_of_lt (show (a.getD i 0).toNat+4294967296-((b.getD i 0).toNat+c)<B by simp only[B];omega)];generalize (a.getD i 0).toNat=x at *
    generalize (b.getD i 0).toNat=y at *
    generalize B^i=P at *
    (have e1:P*(x+4294967296-(y+c))+P*y+P*c=P*x+P*B*1:=by rw[<-Nat.mul_add,<-Nat.mul_add,Nat.mul_assoc,<-Nat.mul_add];congr 1;simp only[B];omega);omega
   {cbv;exact⟨lR,lR,z5 rfl (by show (lm out).length+1=i+1;rw[zG,h3]),lR,zC om,trivial⟩}
   ·cbv;refine⟨zA ?_,trivial⟩
    (try dsimp only [zJ] at *)
    rw[hZ];exact gA out _
  ·(try dsimp only [zJ] at *)
   (rw[hX,hY] at h6;have h6':(b.getD i 0).toNat+c<=(a.getD i 0).toNat:=Nat.not_lt.1 (fun e=>h6 (Int.ofNat_lt.2 e));clear h6;have hZ:nx .u64 (nx .u64 (((a.getD i 0).toNat:Nat):Int)-nx .u64 (nx .u64 (((b.getD i 0).toNat:Nat):Int)+(c:Int)))=(((a.getD i 0).toNat-((b.getD i 0).toNat+c):Nat):Int):=by rw[hX,hY];simp only[wT];omega);cbv
   refine wO ty33 rfl rfl rfl (by rw[zG,h3]) rfl (j5 _) (yJ (Int.natCast_nonneg _) (by show (((lm out).length+1:Nat):Int)*4<=70368744177664;rw[zG,h3];omega)) rfl ?_;cbv;refine⟨zE om om,(i+1,0,out++[UInt32.ofNat ((a.getD i 0).toNat-((b.getD i 0).toNat+c))]),⟨hi,by show 0<2;omega,by simp[h3],?_⟩,by show a.length-(i+1)<a.length-i;omega,.le ?_ ?_ rfl⟩
   ·show val (out++[_])+val (b.take (i+1))=val (a.take (i+1))+B^(i+1)*0;rw[uR,h3,zR a,zR b,Nat.pow_succ,Nat.mod_eq_of_lt (show (a.getD i 0).toNat-((b.getD i 0).toNat+c)<B by simp only[B];omega)];generalize (a.getD i 0).toNat=x at *
    generalize (b.getD i 0).toNat=y at *
    generalize B^i=P at *
    (have e1:P*(x-(y+c))+P*y+P*c=P*x+P*B*0:=by rw[<-Nat.mul_add,<-Nat.mul_add,Nat.mul_assoc,<-Nat.mul_add];congr 1;simp only[B];omega);omega
   {cbv;exact⟨lR,lR,z5 rfl (by show (lm out).length+1=i+1;rw[zG,h3]),lR,zC om,trivial⟩}
   ·cbv;refine⟨zA ?_,trivial⟩
    (try dsimp only [zJ] at *)
    rw[hZ];exact gA out _
 ·(have hi:i=a.length:=om;have hbt:val (b.take a.length)=val b:=by have e1:=gM b a.length;have e2:=xE a;rcases Nat.eq_zero_or_pos (val (b.drop a.length)) with e3|e3;{rw[e3] at e1;omega};{have:=Nat.mul_le_mul_left (B^a.length) e3;omega});rw[hi,List.take_of_length_le (Nat.le_refl _),hbt] at h4;have hc0:c=0:=by
   have e1:=xE out;rw[h3,hi] at e1;rcases Nat.eq_zero_or_pos c with e2|e2;{exact e2}
   ·(have:c=1:=by omega);subst this
    omega
  (have cm:=sR out (by omega);have hv:val out=val a-val b:=by subst hc0;omega);rw[hv,hW] at cm
  cbv;refine fO (.frz 42 rfl rfl ?_ ?_) rfl (by refine⟨zX ?_,trivial⟩;exact List.take_of_length_le (by show ((lm out).drop 0).length<=i;rw[List.drop_zero,zG];omega)) cm rfl ?_;{cbv;exact⟨yL (by rw[zG];omega),yL (by rw[zG];omega),trivial⟩};{exact trivial};cbv
  (refine rC ?_;cbv)
  exact⟨lR,zC (by rw[hE]),trivial⟩
end Go.Proofs.YtfainocfaddbdaaGreat
