/- A part of the proof: ReA, ReB, ReC. -/
import Derived.Test.YtfainocfaddbdaaGreatU19
set_option linter.all false
namespace Go.Proofs.YtfainocfaddbdaaGreat
open Go
set_option maxRecDepth 100000
theorem ty33:ty 24=.sli 1 4 [.int .u32 (fun _=>0)]:=by cbv
theorem n7 (l:List UInt32)(k:Nat):val (l.drop k)=(l.getD k 0).toNat+B*val (l.drop (k+1)):=by rcases wE k l.length with h|h;{exact kX h};{rw[d5 h,d5 oM];simp[jT h,val]}
theorem bS (l:List UInt32)(m:Nat):val l=val (l.take m)+B^m*val (l.drop m):=by rcases wE m l.length with h|h;{exact iU m oM};{rw[d5 h,yN h];simp[val]}
theorem zCA {a b:List UInt32}{m:Nat}(h:val (a.drop m)<val (b.drop m)):val a<val b:=by rw[bS a m,bS b m];have h1:=w5 a m;have h2:=wW (B^m) (show val (a.drop m)+1<=val (b.drop m) from h);rw[yE] at h2;omega
theorem s154 (a:List UInt32)(i:Nat)(ha:a.length<2^40):zG 120 [nat a,.int .i64 (fun _=>(i:Int))] (.int .u32 (fun _=>((a.getD i 0).toNat:Int))):=by
 refine sF Tryz.f120 ?_;generalize hx:a.getD i 0=x;cbv;refine zD (fun h=>?_) (fun h=>?_)
 ·cbv;refine xO i om om ?_;rw[hx];cbv
  (refine rC ?_;cbv)
  exact lR
 ·cbv
  (refine rC ?_;cbv)
  refine zE ?_;have:a.length<=i:=om;rw[<-hx];simp[jT this]
theorem lU (l:List UInt32)(hl:l.length<2^41):zG 121 [nat l] (nat (zF (val l))):=by
 refine sF Tryz.f121 ?_;have fin:∀ n,n<=l.length->val (l.take n)=val l->(n=0\/∃ m,n=m+1/\l.getD m 0≠0)->l.take n=zF (val l):=by intro n hn hv h;rcases h with rfl|⟨m,rfl,h⟩;{rw[<-hv];simp[val,limbs_zero]};{rw[<-hv,nK (by rw[dQ l oM,iF];simpa using h)]}
 generalize hW:zF (val l)=W at *
 cbv;refine zX (σ:=Nat) (fun n=>⟨[(0,nat l),(2,.nil),(3,.int .i64 (fun _=>(n:Int)))],[]⟩) (fun n=>n<=l.length/\val (l.take n)=val l) (fun n=>n) l.length ⟨zV _,by simp⟩ (.le ?_ trivial rfl) ?_;{cbv;exact⟨lR,lR,zE (by simp[zH]),trivial⟩};intro n hn;have done:(n=0\/∃ m,n=m+1/\l.getD m 0≠0)->((lm l).take ((n:Int)).toNat).drop (Int.toNat 0)=lm W:=fun h=>by show ((lm l).take ((n:Int)).toNat).drop 0=lm W;rw[uS,xN,zOA,fin n hn.1 hn.2 h]
 have hwl:W.length<=l.length:=by rw[<-hW];exact zS l
 cbv;refine yD (fun h=>?_) (fun h=>?_)
 ·(try dsimp only [zI] at *)
  obtain⟨m,rfl⟩:∃ m,n=m+1:=⟨n-1,by omega⟩;cbv;refine⟨zC om om,xO m om om ?_⟩;cbv;refine zD (fun h2=>?_) (fun h2=>?_)
  ·cbv;refine⟨zC om om,m,⟨om,?_⟩,om,.le ?_ trivial rfl⟩
   ·(have e:l.getD m 0=0:=by have:(l.getD m 0).toNat=0:=om;exact s9.1 this);rw[<-hn.2,dQ l oM,e,zFL]
   {cbv;exact⟨lR,lR,zE om,trivial⟩}
  ·(have e:l.getD m 0≠0:=fun e=>by (try dsimp only [zI] at *);rw[e] at h2;exact h2 rfl);have hd:=done (.inr ⟨m,rfl,e⟩)
   cbv;refine⟨m5 (Int.le_refl _) om om,l5 l,?_⟩
   (try dsimp only [zI] at *)
   rw[hd];refine vW ty34 rfl rfl rfl rfl rfl (l5 W) (yB om (by simp only[f9];(try dsimp only [zI] at *) <;> (try simp only[zH] at *) <;> omega)) rfl ?_;cbv;refine retW (.frz 22 rfl rfl ?_ ?_) rfl ?_ rfl;{cbv;exact⟨yG (by simp),yG (by simp),trivial⟩};{exact trivial};{exact zY (by simp)}
 ·have h0:n=0:=om;have hd:=done (.inl h0);cbv;refine⟨m5 (Int.le_refl _) om om,l5 l,?_⟩
  (try dsimp only [zI] at *)
  rw[hd];refine vW ty34 rfl rfl rfl rfl rfl (l5 W) (yB om (by simp only[f9];(try dsimp only [zI] at *) <;> (try simp only[zH] at *) <;> omega)) rfl ?_;cbv;refine retW (.frz 22 rfl rfl ?_ ?_) rfl ?_ rfl;{cbv;exact⟨yG (by simp),yG (by simp),trivial⟩};{exact trivial};{exact zY (by simp)}
theorem s149 (x:Nat)(hx:x<B*B):zG 117 [.int .u64 (fun _=>(x:Int))] (nat (zF x)):=by
 refine sF Tryz.f117 ?_;have h2:x/B<B:=zI1 hx;have hv:val [UInt32.ofNat (x%B),UInt32.ofNat (x/B)]=x:=by simp only[val,dW];rw[UInt32.toNat_ofNat',wO (show x/B<2^32 from h2),zBY,gM];exact d6 x B
 have c1:=lU [UInt32.ofNat (x%B),UInt32.ofNat (x/B)] (by simp);rw[hv] at c1;have he:([[.int .u32 (nx .u32 (x:Int))],[.int .u32 (nx .u32 (ishr .u64 (x:Int) 32))]]:List (List D))=lm [UInt32.ofNat (x%B),UInt32.ofNat (x/B)]:=by
  rw[aH];simp only[lm,uC,mU,dW,x8,wO h2,gW,B] at *
  congr 3 <;> congr 1 <;> omega
 generalize zF x=W at *
 cbv;refine⟨v9 oM,?_⟩;refine wL rfl (by exact⟨zY he,trivial⟩) c1 rfl ?_;cbv
 (refine rC ?_;cbv)
 exact lR
theorem s206 (l:List UInt32)(hl:l.length<2^40):zG 150 [nat l] (.tup [.int .u64 (fun _=>((if val l<B*B then val l else 0:Nat):Int)),.bool (fun _=>decide (val l<B*B))]):=by
 refine sF Tryz.f150 ?_;have hl':=xJ (zS l) hl;have c1:=lU l oM;have hv:=zM (val l);have h2:=@len2 (val l);generalize zF (val l)=p at *
 generalize hr:(if val l<B*B then val l else 0:Nat)=r;generalize hb:decide (val l<B*B)=b;generalize val l=v at *
 have hin:p.length<=2->r=val p/\b=true:=fun h=>by rw[<-hr,<-hb,if_pos (h2.1 h),hv];exact⟨rfl,decide_eq_true (h2.1 h)⟩
 cbv;refine cA c1 ?_;cbv;refine zD (fun h=>?_) (fun h=>?_)
 ·have h0:p.length=0:=om;obtain⟨e1,e2⟩:=hin oM;cbv
  (refine rC ?_;cbv)
  refine⟨zE ?_,xQ e2,trivial⟩;rw[e1,jS h0];rfl
 ·cbv;refine zD (fun h3=>?_) (fun h3=>?_)
  ·have h0:p.length=1:=om;obtain⟨e1,e2⟩:=hin oM;cbv;refine xO 0 rfl oM ?_;cbv
   (refine rC ?_;cbv)
   refine⟨zE ?_,xQ e2,trivial⟩;rw[e1]
   match p,h0 with
   |[x],_ =>
    have:=yL x;show nx .u64 ((x.toNat:Nat):Int)=((x.toNat+B*0:Nat):Int);rw[xW (by simp only[B] at this;omega)];simp
  ·cbv;refine zD (fun h4=>?_) (fun h4=>?_)
   ·have h0:p.length=2:=om;obtain⟨e1,e2⟩:=hin oM;cbv;refine zT 10 (by cbv) ?_;cbv;refine xO 0 rfl oM ?_;cbv;refine xO 1 rfl oM ?_;cbv;refine⟨v9 oM,?_⟩
    (refine rC ?_;cbv)
    refine⟨zE ?_,xQ e2,trivial⟩;rw[e1]
    match p,h0 with
    |[x,y],_ =>
     have h5:=yL x;have h6:=yL y;show ior .u64 (nx .u64 ((x.toNat:Nat):Int)) (ishl .u64 (nx .u64 ((y.toNat:Nat):Int)) 32)=((x.toNat+B*(y.toNat+B*0):Nat):Int);rw[xW (n:=x.toNat) (by simp only[B] at h5;omega),or2 h5 h6];rfl
   ·have h0:¬p.length<=2:=om;have h5:¬v<B*B:=fun e=>h0 (h2.2 e);cbv
    (refine rC ?_;cbv)
    exact⟨zE (by rw[<-hr,if_neg h5];rfl),z5 (by rw[<-hb];exact decide_eq_false h5),trivial⟩
theorem s205 (a b:List UInt32)(ha:a.length<2^40)(hb:b.length<2^40):zG 153 [nat a,nat b] (.int .i64 (fun _=>qH (val a) (val b))):=by
 refine sF Tryz.f153 ?_;have hlt:val a<val b->qH (val a) (val b)=-1:=zC5;have hgt:val b<val a->qH (val a) (val b)=1:=zC6;have heq:val a=val b->qH (val a) (val b)=0:=fun h=>by rw[h,zHX]
 generalize hC:qH (val a) (val b)=C at *
 have hmax:imax ((lm a).length:Int) ((lm b).length:Int)=((max a.length b.length:Nat):Int):=by unfold imax;rw[zH,zH];split <;> omega
 cbv;refine⟨zC (by (try dsimp only [zI] at *);rw[hmax];omega) (by (try dsimp only [zI] at *);rw[hmax];omega),?_⟩;refine zX (σ:=Nat) (fun n=>⟨[(0,nat a),(1,nat b),(5,.int .i64 (fun _=>(n:Int)-1))],[]⟩) (fun n=>n<=max a.length b.length/\val (a.drop n)=val (b.drop n)) (fun n=>n) (max a.length b.length) ⟨zV _,by rw[d5 oM,d5 oM]⟩ (.le ?_ trivial rfl) ?_;{cbv;exact⟨lR,lR,zE (by (try dsimp only [zI] at *);rw[hmax]),trivial⟩};intro n hn;cbv;refine zD (fun h=>?_) (fun h=>?_)
 ·(try dsimp only [zI] at *)
  (obtain⟨m,rfl⟩:∃ m,n=m+1:=⟨n-1,by omega⟩;have hm:((m+1:Nat):Int)-1=(m:Int):=by omega);have da:=n7 a m
  rw[hn.2] at da;have db:=n7 b m;have ca:=s154 a m ha;have cb:=s154 b m hb;cbv;refine wL rfl (by exact⟨lR,zE hm,trivial⟩) ca rfl ?_;cbv;refine wL rfl (by exact⟨lR,zE hm,trivial⟩) cb rfl ?_;cbv;refine zD (fun h2=>?_) (fun h2=>?_)
  ·cbv
   (refine rC ?_;cbv)
   exact zE (hlt (zCA (m:=m) om)).symm
  ·cbv;refine wL rfl (by exact⟨lR,zE hm,trivial⟩) ca rfl ?_;cbv;refine wL rfl (by exact⟨lR,zE hm,trivial⟩) cb rfl ?_;cbv;refine zD (fun h3=>?_) (fun h3=>?_)
   ·cbv
    (refine rC ?_;cbv)
    exact zE (hgt (zCA (m:=m) om)).symm
   {cbv;refine⟨zC om om,m,⟨by omega,by (try dsimp only [zI] at *);omega⟩,by omega,.le ?_ trivial rfl⟩;cbv;exact⟨lR,lR,zE om,trivial⟩}
 ·have h0:n=0:=om;subst h0;cbv
  (refine rC ?_;cbv)
  exact zE (heq (by simpa using hn.2)).symm
theorem s130 (a b:List UInt32)(ha:a.length<2^40)(hb:b.length<2^40):zG 148 [nat a,nat b] (.bool (fun _=>decide (a=b))):=by
 refine sF Tryz.f148 ?_;generalize hC:decide (a=b)=C at *
 cbv;refine zD (fun h=>?_) (fun h=>?_)
 ·(have hl:a.length=b.length:=by (try dsimp only [zI] at *);simp only[zH] at h;omega);cbv
  refine zX (σ:=Nat) (fun n=>⟨[(0,nat a),(1,nat b),(5,.int .i64 (fun _=>(n:Int)))],[]⟩) (fun n=>n<=a.length/\a.take n=b.take n) (fun n=>a.length-n) 0 ⟨wH _,by simp⟩ (.le ?_ trivial rfl) ?_;{cbv;exact okA};intro n hn;cbv;refine zD (fun h2=>?_) (fun h2=>?_)
  ·have hlt:n<a.length:=om;cbv;refine zT 9 (by cbv) ?_;cbv;refine xO n om om ?_;cbv;refine xO n om om ?_;cbv;refine zD (fun h3=>?_) (fun h3=>?_);{cbv;refine⟨zC om om,n+1,⟨hlt,?_⟩,by show a.length-(n+1)<a.length-n;omega,.le ?_ trivial rfl⟩;{have e:a.getD n 0=b.getD n 0:=s9.1 om;rw[dQ a hlt,dQ b oM,hn.2,e]};{cbv;exact⟨lR,lR,zE om,trivial⟩}}
   ·cbv
    (refine rC ?_;cbv)
    refine z5 ?_;rw[<-hC];exact decide_eq_false fun e=>h3 (by rw[e])
  ·have hn0:n=a.length:=om;subst hn0;cbv
   (refine rC ?_;cbv)
   refine xQ ?_;rw[<-hC];refine decide_eq_true ?_;have:=hn.2;rwa [yN (zV _),yN oM] at this
 ·cbv
  (refine rC ?_;cbv)
  refine z5 ?_;rw[<-hC];exact decide_eq_false fun e=>h (by rw[e])
theorem bA (d:D):Wid 1 (fun _=>[[d]]):=⟨fun e he=>by simp at he;subst he;rfl⟩
theorem bG (out:List UInt32)(S:Nat):lm out++[[.int .u32 (nx .u32 ((S:Nat):Int))]]=lm (out++[UInt32.ofNat S]):=by rw[<-zPZ];congr 1;simp only[lm,uC,mU,x8,gW,B];congr 2
theorem jU (l:List UInt32)(S:Nat):val (l++[UInt32.ofNat S])=val l+B^l.length*(S%B):=by rw[zI2,x8]
theorem s156 (a b:List UInt32)(ha:a.length<2^40)(hb:b.length<2^40):zG 123 [nat a,nat b] (nat (zF (val a+val b))):=by
 refine sF Tryz.f123 ?_;generalize hW:zF (val a+val b)=W;cbv;refine zX (σ:=Nat×Nat×List UInt32) (fun s=>⟨[(0,nat a),(1,nat b),(5,.osl 35 1 (fun _=>0) (fun _=>s.1)),(6,.int .u64 (fun _=>(s.2.1:Int))),(7,.int .i64 (fun _=>(s.1:Int)))],[(35,.arr 1 (fun _=>lm s.2.2))]⟩)
  (fun s=>s.1<=max a.length b.length/\s.2.1<2/\s.2.2.length=s.1/\val s.2.2+B^s.1*s.2.1=val (a.take s.1)+val (b.take s.1)) (fun s=>max a.length b.length-s.1)
  (0,0,[]) ⟨wH _,by show (0:Nat)<2;omega,rfl,by simp[val]⟩ (.trans (.adoptT 35 1 5 rfl rfl) (.le ?_ ?_ rfl)) ?_
 {cbv;exact okA};{cbv;exact⟨zB rfl,trivial⟩};intro s hs;obtain⟨h1,h2,h3,h4⟩:=hs;generalize s.1=i at *
 generalize s.2.1=c at *
 generalize s.2.2=out at *
 have ca:=s154 a i ha;have cb:=s154 b i hb;have hx:=yL (a.getD i 0);have hy:=yL (b.getD i 0);simp only[B] at hx hy;cbv;refine yD (fun h5=>?_) (fun h5=>?_)
 ·(have hi:i<a.length:=om;cbv;refine wL rfl okA ca rfl ?_;cbv;refine wL rfl okA cb rfl ?_;have hS:nx .u64 ((c:Int)+nx .u64 (nx .u64 (((a.getD i 0).toNat:Nat):Int)+nx .u64 (((b.getD i 0).toNat:Nat):Int)))=((c+((a.getD i 0).toNat+(b.getD i 0).toNat):Nat):Int):=by simp only[uJ];omega);cbv
  refine vW ty33 rfl rfl rfl (by rw[zH,h3]) rfl (bA _) (yB (dE _) (by show (((lm out).length+1:Nat):Int)*4<=70368744177664;rw[zH,h3];omega)) rfl ?_;cbv;refine⟨v9 oM,zC om om,(i+1,(c+((a.getD i 0).toNat+(b.getD i 0).toNat))/B,out++[UInt32.ofNat (c+((a.getD i 0).toNat+(b.getD i 0).toNat))]),⟨by show i+1<=max a.length b.length;omega,?_,by simp[h3],?_⟩,by show max a.length b.length-(i+1)<max a.length b.length-i;omega,.le ?_ ?_ rfl⟩;{show (c+((a.getD i 0).toNat+(b.getD i 0).toNat))/B<2;rw[cQ wI];simp only[B];omega}
  ·show val (out++[_])+B^(i+1)*((c+((a.getD i 0).toNat+(b.getD i 0).toNat))/B)=val (a.take (i+1))+val (b.take (i+1));rw[jU,h3,zR a,zR b,xS];have hdm:=d6 (c+((a.getD i 0).toNat+(b.getD i 0).toNat)) B;generalize (c+((a.getD i 0).toNat+(b.getD i 0).toNat))%B=lo at *
   generalize (c+((a.getD i 0).toNat+(b.getD i 0).toNat))/B=hi at *
   generalize (a.getD i 0).toNat=x at *
   generalize (b.getD i 0).toNat=y at *
   generalize B^i=P at *
   (have e1:P*lo+P*B*hi=P*c+P*x+P*y:=by rw[vI,<-yE,hdm,yE,yE];omega);omega
  ·cbv;refine⟨lR,lR,zU rfl (by show (lm out).length+1=i+1;rw[zH,h3]),zE ?_,zE om,trivial⟩
   (try dsimp only [zI] at *)
   rw[hS];exact aH _
  ·cbv;refine⟨zB ?_,trivial⟩
   (try dsimp only [zI] at *)
   rw[hS];exact bG out _
 ·cbv;refine zD (fun h6=>?_) (fun h6=>?_)
  ·(have hi:i<b.length:=om;cbv;refine wL rfl okA ca rfl ?_;cbv;refine wL rfl okA cb rfl ?_;have hS:nx .u64 ((c:Int)+nx .u64 (nx .u64 (((a.getD i 0).toNat:Nat):Int)+nx .u64 (((b.getD i 0).toNat:Nat):Int)))=((c+((a.getD i 0).toNat+(b.getD i 0).toNat):Nat):Int):=by simp only[uJ];omega);cbv
   refine vW ty33 rfl rfl rfl (by rw[zH,h3]) rfl (bA _) (yB (dE _) (by show (((lm out).length+1:Nat):Int)*4<=70368744177664;rw[zH,h3];omega)) rfl ?_;cbv;refine⟨v9 oM,zC om om,(i+1,(c+((a.getD i 0).toNat+(b.getD i 0).toNat))/B,out++[UInt32.ofNat (c+((a.getD i 0).toNat+(b.getD i 0).toNat))]),⟨by show i+1<=max a.length b.length;omega,?_,by simp[h3],?_⟩,by show max a.length b.length-(i+1)<max a.length b.length-i;omega,.le ?_ ?_ rfl⟩;{show (c+((a.getD i 0).toNat+(b.getD i 0).toNat))/B<2;rw[cQ wI];simp only[B];omega}
   ·show val (out++[_])+B^(i+1)*((c+((a.getD i 0).toNat+(b.getD i 0).toNat))/B)=val (a.take (i+1))+val (b.take (i+1));rw[jU,h3,zR a,zR b,xS];have hdm:=d6 (c+((a.getD i 0).toNat+(b.getD i 0).toNat)) B;generalize (c+((a.getD i 0).toNat+(b.getD i 0).toNat))%B=lo at *
    generalize (c+((a.getD i 0).toNat+(b.getD i 0).toNat))/B=hi at *
    generalize (a.getD i 0).toNat=x at *
    generalize (b.getD i 0).toNat=y at *
    generalize B^i=P at *
    (have e1:P*lo+P*B*hi=P*c+P*x+P*y:=by rw[vI,<-yE,hdm,yE,yE];omega);omega
   ·cbv;refine⟨lR,lR,zU rfl (by show (lm out).length+1=i+1;rw[zH,h3]),zE ?_,zE om,trivial⟩
    (try dsimp only [zI] at *)
    rw[hS];exact aH _
   ·cbv;refine⟨zB ?_,trivial⟩
    (try dsimp only [zI] at *)
    rw[hS];exact bG out _
  ·(have hi1:a.length<=i:=om;have hi2:b.length<=i:=om;rw[yN hi1,yN hi2] at h4;have cm:=lU (out++[UInt32.ofNat c]) (by simp;omega);have hv:val (out++[UInt32.ofNat c])=val a+val b:=by rw[jU,h3,wO (show c<B by simp only[B];omega)];exact h4);rw[hv,hW] at cm
   cbv;refine vW ty33 rfl rfl rfl (by rw[zH,h3]) rfl (bA _) (yB (dE _) (by show (((lm out).length+1:Nat):Int)*4<=70368744177664;rw[zH,h3];omega)) rfl ?_;cbv;refine aR (.frz 42 rfl rfl ?_ ?_) rfl (by refine⟨zY ?_,trivial⟩;exact (yN (by show (lm out++[_]).length<=(lm out).length+1;simp)).trans (bG out c)) cm rfl ?_;{cbv;exact⟨yG (by show 0+((lm out).length+1)<=(lm out++[_]).length;simp),trivial⟩};{exact trivial};cbv
   (refine rC ?_;cbv)
   exact lR
theorem s157 (a b:List UInt32)(ha:a.length<2^40)(hb:b.length<2^40):zG 124 [nat a,nat b] (.tup [nat (zF (val a-val b)),.int .i64 (fun _=>if val b<=val a then 0 else 2)]):=by
 refine sF Tryz.f124 ?_;have cc:=s205 a b ha hb;have hcl:qH (val a) (val b)<0↔val a<val b:=by unfold qH;split;{omega};{split <;> omega}
 generalize qH (val a) (val b)=C at *
 have hlt:val a<val b->zF (val a-val b)=[]/\(if val b<=val a then (0:Int) else 2)=2:=fun h=>⟨by rw[Nat.sub_eq_zero_of_le oM,limbs_zero],by rw[if_neg oM]⟩;have hge:val b<=val a->(if val b<=val a then (0:Int) else 2)=0:=fun h=>if_pos h;generalize hW:zF (val a-val b)=W at *
 generalize (if val b<=val a then (0:Int) else 2)=E at *
 cbv;refine cA cc ?_;cbv;refine zD (fun h=>?_) (fun h=>?_)
 ·obtain⟨e1,e2⟩:=hlt (hcl.1 h);cbv
  (refine rC ?_;cbv)
  exact⟨xB (by rw[e1];rfl),zE (by rw[e2]),trivial⟩
 have hba:val b<=val a:=by rcases wE (val a) (val b) with h1|h1;{exact absurd (hcl.2 h1) h};{exact h1}
 have hE:=hge hba;cbv;refine zX (σ:=Nat×Nat×List UInt32) (fun s=>⟨[(0,nat a),(1,nat b),(6,.osl 42 1 (fun _=>0) (fun _=>s.1)),(7,.int .u64 (fun _=>(s.2.1:Int))),(8,.int .i64 (fun _=>(s.1:Int)))],[(42,.arr 1 (fun _=>lm s.2.2))]⟩)
  (fun s=>s.1<=a.length/\s.2.1<2/\s.2.2.length=s.1/\val s.2.2+val (b.take s.1)=val (a.take s.1)+B^s.1*s.2.1) (fun s=>a.length-s.1)
  (0,0,[]) ⟨wH _,by show (0:Nat)<2;omega,rfl,by simp[val]⟩ (.trans (.adoptT 42 1 6 rfl rfl) (.le ?_ ?_ rfl)) ?_
 {cbv;exact okA};{cbv;exact⟨zB rfl,trivial⟩};intro s hs;obtain⟨h1,h2,h3,h4⟩:=hs;generalize s.1=i at *
 generalize s.2.1=c at *
 generalize s.2.2=out at *
 have ca:=s154 a i ha;have cb:=s154 b i hb;have hx:=yL (a.getD i 0);have hy:=yL (b.getD i 0);simp only[B] at hx hy;cbv;refine zD (fun h5=>?_) (fun h5=>?_)
 ·(have hi:i<a.length:=om;have hX:nx .u64 (((a.getD i 0).toNat:Nat):Int)=(((a.getD i 0).toNat:Nat):Int):=xW oM;have hY:nx .u64 (nx .u64 (((b.getD i 0).toNat:Nat):Int)+(c:Int))=(((b.getD i 0).toNat+c:Nat):Int):=by simp only[uJ];omega);cbv
  refine wL rfl okA ca rfl ?_;cbv;refine wL rfl okA cb rfl ?_;cbv;refine zD (fun h6=>?_) (fun h6=>?_)
  ·(try dsimp only [zI] at *)
   (rw[hX,hY] at h6;have h6':(a.getD i 0).toNat<(b.getD i 0).toNat+c:=Int.ofNat_lt.1 h6;clear h6;have hZ:nx .u64 (nx .u64 (nx .u64 (((a.getD i 0).toNat:Nat):Int)+4294967296)-nx .u64 (nx .u64 (((b.getD i 0).toNat:Nat):Int)+(c:Int)))=(((a.getD i 0).toNat+4294967296-((b.getD i 0).toNat+c):Nat):Int):=by rw[hX,hY];simp only[uJ];omega);cbv
   refine vW ty33 rfl rfl rfl (by rw[zH,h3]) rfl (bA _) (yB (dE _) (by show (((lm out).length+1:Nat):Int)*4<=70368744177664;rw[zH,h3];omega)) rfl ?_;cbv;refine⟨zC om om,(i+1,1,out++[UInt32.ofNat ((a.getD i 0).toNat+4294967296-((b.getD i 0).toNat+c))]),⟨hi,by show 1<2;omega,by simp[h3],?_⟩,by show a.length-(i+1)<a.length-i;omega,.le ?_ ?_ rfl⟩
   ·show val (out++[_])+val (b.take (i+1))=val (a.take (i+1))+B^(i+1)*1;rw[jU,h3,zR a,zR b,xS,wO (show (a.getD i 0).toNat+4294967296-((b.getD i 0).toNat+c)<B by simp only[B];omega)];generalize (a.getD i 0).toNat=x at *
    generalize (b.getD i 0).toNat=y at *
    generalize B^i=P at *
    (have e1:P*(x+4294967296-(y+c))+P*y+P*c=P*x+P*B*1:=by rw[<-yE,<-yE,vI,<-yE];congr 1;simp only[B];omega);omega
   {cbv;exact⟨lR,lR,zU rfl (by show (lm out).length+1=i+1;rw[zH,h3]),lR,zE om,trivial⟩}
   ·cbv;refine⟨zB ?_,trivial⟩
    (try dsimp only [zI] at *)
    rw[hZ];exact bG out _
  ·(try dsimp only [zI] at *)
   (rw[hX,hY] at h6;have h6':(b.getD i 0).toNat+c<=(a.getD i 0).toNat:=Nat.not_lt.1 (fun e=>h6 (Int.ofNat_lt.2 e));clear h6;have hZ:nx .u64 (nx .u64 (((a.getD i 0).toNat:Nat):Int)-nx .u64 (nx .u64 (((b.getD i 0).toNat:Nat):Int)+(c:Int)))=(((a.getD i 0).toNat-((b.getD i 0).toNat+c):Nat):Int):=by rw[hX,hY];simp only[uJ];omega);cbv
   refine vW ty33 rfl rfl rfl (by rw[zH,h3]) rfl (bA _) (yB (dE _) (by show (((lm out).length+1:Nat):Int)*4<=70368744177664;rw[zH,h3];omega)) rfl ?_;cbv;refine⟨zC om om,(i+1,0,out++[UInt32.ofNat ((a.getD i 0).toNat-((b.getD i 0).toNat+c))]),⟨hi,by show 0<2;omega,by simp[h3],?_⟩,by show a.length-(i+1)<a.length-i;omega,.le ?_ ?_ rfl⟩
   ·show val (out++[_])+val (b.take (i+1))=val (a.take (i+1))+B^(i+1)*0;rw[jU,h3,zR a,zR b,xS,wO (show (a.getD i 0).toNat-((b.getD i 0).toNat+c)<B by simp only[B];omega)];generalize (a.getD i 0).toNat=x at *
    generalize (b.getD i 0).toNat=y at *
    generalize B^i=P at *
    (have e1:P*(x-(y+c))+P*y+P*c=P*x+P*B*0:=by rw[<-yE,<-yE,vI,<-yE];congr 1;simp only[B];omega);omega
   {cbv;exact⟨lR,lR,zU rfl (by show (lm out).length+1=i+1;rw[zH,h3]),lR,zE om,trivial⟩}
   ·cbv;refine⟨zB ?_,trivial⟩
    (try dsimp only [zI] at *)
    rw[hZ];exact bG out _
 ·(have hi:i=a.length:=om;have hbt:val (b.take a.length)=val b:=by have e1:=bS b a.length;have e2:=xZ a;rcases aY (val (b.drop a.length)) with e3|e3;{rw[e3] at e1;omega};{have:=wW (B^a.length) e3;omega});rw[hi,yN (zV _),hbt] at h4;have hc0:c=0:=by
   have e1:=xZ out;rw[h3,hi] at e1;rcases aY c with e2|e2;{exact e2}
   ·(have:c=1:=by omega);subst this
    omega
  (have cm:=lU out oM;have hv:val out=val a-val b:=by subst hc0;omega);rw[hv,hW] at cm
  cbv;refine aR (.frz 42 rfl rfl ?_ ?_) rfl (by refine⟨zY ?_,trivial⟩;exact yN (by show ((lm out).drop 0).length<=i;rw[uS,zH];omega)) cm rfl ?_;{cbv;exact⟨yG (by rw[zH];omega),yG (by rw[zH];omega),trivial⟩};{exact trivial};cbv
  (refine rC ?_;cbv)
  exact⟨lR,zE (by rw[hE]),trivial⟩
theorem s99 (a b:List UInt32)(ha:a.length<2^39)(hb:b.length<2^39):zG 70 [nat a,nat b] (nat (zF (val a*val b))):=by
 refine sF Tryz.f70 ?_;have hBB:B*B=18446744073709551616:=by decide
 have hB:B=4294967296:=rfl;generalize hW:zF (val a*val b)=W;cbv;refine⟨zC om om,zC om om,yB om om,vF om om,?_⟩;cbv;refine zX (σ:=Nat×List UInt32) (fun s=>⟨[(0,nat a),(1,nat b),(5,.osl 15 1 (fun _=>0) (fun _=>a.length+b.length+1)),(6,.int .i64 (fun _=>(s.1:Int)))],[(15,.arr 1 (fun _=>lm s.2))]⟩)
  (fun s=>s.1<=a.length/\s.2.length=a.length+b.length+1/\val s.2=val (a.take s.1)*val b) (fun s=>a.length-s.1)
  (0,List.replicate (a.length+b.length+1) 0) ⟨wH _,by simp,by simp[val,fG]⟩ (.le ?_ ?_ rfl) ?_
 {cbv;exact⟨lR,lR,zU rfl (by (try dsimp only [zI] at *);simp only[zH];omega),lR,trivial⟩};{cbv;exact⟨zB (zBK _ _ (by (try dsimp only [zI] at *);simp only[zH];omega)),trivial⟩};intro s hs;obtain⟨h1,h2,h3⟩:=hs;generalize s.1=i at *
 generalize s.2=out at *
 cbv;refine zD (fun h4=>?_) (fun h4=>?_)
 ·have hi:i<a.length:=om;have hx:=yL (a.getD i 0);have hta:=zR a i;cbv;refine zX (σ:=Nat×Nat×List UInt32) (fun s=>⟨[(0,nat a),(1,nat b),(5,.osl 15 1 (fun _=>0) (fun _=>a.length+b.length+1)),(6,.int .i64 (fun _=>(i:Int))),(7,.int .u64 (fun _=>(s.2.1:Int))),(8,.int .i64 (fun _=>(s.1:Int)))],[(15,.arr 1 (fun _=>lm s.2.2))]⟩)
   (fun s=>s.1<=b.length+1/\s.2.1<B/\s.2.2.length=a.length+b.length+1/\val s.2.2+B^(i+s.1)*s.2.1=val (a.take i)*val b+B^i*((a.getD i 0).toNat*val (b.take s.1))) (fun s=>b.length+1-s.1)
   (0,0,out) ⟨wH _,wI,h2,by simp[val,h3]⟩ (.le ?_ ?_ rfl) ?_
  {cbv;exact okA};{cbv;exact⟨zB rfl,trivial⟩};intro s hs;obtain⟨k1,k2,k3,k4⟩:=hs;generalize s.1=k at *
  generalize s.2.1=c at *
  generalize s.2.2=o at *
  have cb:=s154 b k oM;have hy:=yL (b.getD k 0);have ho:=yL (o.getD (i+k) 0);cbv;refine zD (fun h5=>?_) (fun h5=>?_)
  ·(have hk:k<=b.length:=om;have hm:(a.getD i 0).toNat*(b.getD k 0).toNat<=(B-1)*(B-1):=s8 oM oM;have hmB:(B-1)*(B-1)+(B-1)+(B-1)<B*B:=by decide);have hTl:c+((a.getD i 0).toNat*(b.getD k 0).toNat+(o.getD (i+k) 0).toNat)<B*B:=by omega
   (have hS:nx .u64 ((c:Int)+nx .u64 (nx .u64 (nx .u64 (((a.getD i 0).toNat:Nat):Int)*nx .u64 (((b.getD k 0).toNat:Nat):Int))+nx .u64 (((o.getD (i+k) 0).toNat:Nat):Int)))=((c+((a.getD i 0).toNat*(b.getD k 0).toNat+(o.getD (i+k) 0).toNat):Nat):Int):=by rw[xW (n:=(a.getD i 0).toNat) oM,xW (n:=(b.getD k 0).toNat) oM,xW (n:=(o.getD (i+k) 0).toNat) oM];have e1:nx .u64 ((((a.getD i 0).toNat:Nat):Int)*(((b.getD k 0).toNat:Nat):Int))=(((a.getD i 0).toNat*(b.getD k 0).toNat:Nat):Int):=xW (n:=(a.getD i 0).toNat*(b.getD k 0).toNat) oM;rw[e1];have e2:nx .u64 ((((a.getD i 0).toNat*(b.getD k 0).toNat:Nat):Int)+(((o.getD (i+k) 0).toNat:Nat):Int))=(((a.getD i 0).toNat*(b.getD k 0).toNat+(o.getD (i+k) 0).toNat:Nat):Int):=xW (n:=(a.getD i 0).toNat*(b.getD k 0).toNat+(o.getD (i+k) 0).toNat) oM;rw[e2];exact xW (n:=c+((a.getD i 0).toNat*(b.getD k 0).toNat+(o.getD (i+k) 0).toNat)) oM);cbv;refine zT 20 (by cbv) ?_;cbv;refine xO i om om ?_;cbv;refine dA cb ?_;cbv;refine⟨zC om om,zQ om om,gH (i+k) om om ?_⟩;cbv;refine⟨zC om om,zQ om om,gH (i+k) om om ?_⟩;cbv;refine⟨v9 oM,zC om om,(k+1,(c+((a.getD i 0).toNat*(b.getD k 0).toNat+(o.getD (i+k) 0).toNat))/B,o.set (i+k) (UInt32.ofNat (c+((a.getD i 0).toNat*(b.getD k 0).toNat+(o.getD (i+k) 0).toNat)))),⟨by show k+1<=b.length+1;omega,?_,by simpa using k3,?_⟩,by show b.length+1-(k+1)<b.length+1-k;omega,.le ?_ ?_ rfl⟩
   {show (c+((a.getD i 0).toNat*(b.getD k 0).toNat+(o.getD (i+k) 0).toNat))/B<B;rw[cQ wI];exact hTl}
   ·(show val (o.set (i+k) _)+B^(i+(k+1))*((c+((a.getD i 0).toNat*(b.getD k 0).toNat+(o.getD (i+k) 0).toNat))/B)=val (a.take i)*val b+B^i*((a.getD i 0).toNat*val (b.take (k+1)));have e1:=a6 o (j:=i+k) oM (UInt32.ofNat (c+((a.getD i 0).toNat*(b.getD k 0).toNat+(o.getD (i+k) 0).toNat)));rw[x8] at e1;rw[zR b,show B^(i+(k+1))=B^(i+k)*B by rw[<-alT9,xS]];have hdm:=d6 (c+((a.getD i 0).toNat*(b.getD k 0).toNat+(o.getD (i+k) 0).toNat)) B;have e3:B^i*((a.getD i 0).toNat*(val (b.take k)+B^k*(b.getD k 0).toNat))=B^i*((a.getD i 0).toNat*val (b.take k))+B^(i+k)*((a.getD i 0).toNat*(b.getD k 0).toNat):=by rw[yE,yE,k8,zBX (a.getD i 0).toNat,<-vI (B^i) (B^k)]);rw[e3]
    generalize val (o.set (i+k) (UInt32.ofNat (c+((a.getD i 0).toNat*(b.getD k 0).toNat+(o.getD (i+k) 0).toNat))))=vo at *
    generalize (c+((a.getD i 0).toNat*(b.getD k 0).toNat+(o.getD (i+k) 0).toNat))%B=lo at *
    generalize (c+((a.getD i 0).toNat*(b.getD k 0).toNat+(o.getD (i+k) 0).toNat))/B=hi' at *
    generalize (a.getD i 0).toNat*(b.getD k 0).toNat=m at *
    generalize (o.getD (i+k) 0).toNat=x at *
    generalize B^(i+k)=P at *
    (have e2:P*lo+P*B*hi'=P*c+P*m+P*x:=by rw[vI,<-yE,hdm,yE,yE];omega);omega
   ·cbv;refine⟨lR,lR,lR,lR,zE ?_,zE om,trivial⟩
    (try dsimp only [zI] at *)
    rw[hS];exact aH _
   ·cbv;refine⟨zB ?_,trivial⟩
    (try dsimp only [zI] at *)
    rw[hS];exact fL o (by simp;omega) _
  ·(have hk:k=b.length+1:=om;rw[yN (show b.length<=k by omega)] at k4;have hfull:val (a.take i)*val b+B^i*((a.getD i 0).toNat*val b)=val (a.take (i+1))*val b:=by rw[hta,w7,vI]);rw[hfull] at k4
   have hc0:c=0:=by
    (have e1:=zBW (w5 a (i+1)) (xZ b);have e0:i+1+b.length=i+k:=by omega);rw[<-k8,e0] at e1
    generalize B^(i+k)=P at *
    rcases aY c with e2|e2;{exact e2};{exfalso;have e3:P*1<=P*c:=wW P e2;rw[c8] at e3;omega}
   (have k5:val o=val (a.take (i+1))*val b:=by rw[hc0,zBY,gM] at k4;exact k4);cbv
   refine⟨zC om om,(i+1,o),⟨hi,k3,k5⟩,by show a.length-(i+1)<a.length-i;omega,.le ?_ ?_ rfl⟩;{cbv;exact⟨lR,lR,lR,zE om,trivial⟩};{cbv;exact⟨zB rfl,trivial⟩}
 ·have hi:i=a.length:=om;rw[hi,yN (zV _)] at h3;have cm:=lU out oM;rw[h3,hW] at cm;cbv;refine aR (.frz 15 rfl rfl ?_ ?_) rfl (by refine⟨zY ?_,trivial⟩;exact yN (by show ((lm out).drop 0).length<=a.length+b.length+1;rw[uS,zH];omega)) cm rfl ?_;{cbv;exact⟨yG (by rw[zH];omega),yG (by rw[zH];omega),trivial⟩};{exact trivial};cbv
  (refine rC ?_;cbv)
  exact lR
def zU3 (a:List UInt32) (k:Nat):Option (Nat×Nat×List UInt32)->Prop
 |none=>True| some s=>s.1<=a.length/\s.2.1<2^k/\s.2.2.length=s.1/\val s.2.2+B^s.1*s.2.1=val (a.take s.1)*2^k
def zWL (a:List UInt32):Option (Nat×Nat×List UInt32)->Nat
 |none=>a.length+1| some s=>a.length-s.1
theorem s208 (a:List UInt32)(k:Nat)(ha:a.length<2^40)(hk:k<32):zG 152 [nat a,.int .i64 (fun _=>(k:Int))] (nat (zF (val a*2^k))):=by
 refine sF Tryz.f152 ?_;generalize hW:zF (val a*2^k)=W;have hk2:=iP k;have hq:nx .i64 (iquo (k:Int) 32)=0:=by have:=jK (a:=k) (b:=32);rw[show k/32=0 by omega] at this;rw[show iquo (k:Int) 32=0 from this,sN oM oM]
 have hr:irem (k:Int) 32=(k:Int):=by have:=jJ (a:=k) (b:=32);rw[show k%32=k by omega] at this;exact this
 obtain⟨i0,hi0⟩:∃ i0:Nat,i0=0:=⟨0,rfl⟩;obtain⟨c0,hc0⟩:∃ c0:Nat,c0=0:=⟨0,rfl⟩;obtain⟨out0,hout0⟩:∃ out0:List UInt32,out0=[]:=⟨[],rfl⟩;cbv;refine⟨uI oM,yB (by (try dsimp only [zI] at *);rw[hq];omega) (by (try dsimp only [zI] at *);rw[hq];omega),vF (by (try dsimp only [zI] at *);rw[hq];omega) (by (try dsimp only [zI] at *);rw[hq];omega),?_⟩;cbv;refine zX (σ:=Option (Nat×Nat×List UInt32)) (fun s=>match s with
   |none=>⟨[(0,nat a),(1,.int .i64 (fun _=>(k:Int))),(5,.osl 10 1 (fun _=>0) (fun _=>i0)),(6,.int .u64 (fun _=>(c0:Int))),(7,.int .i64 (fun _=>(i0:Int)))],[(10,.arr 1 (fun _=>lm out0))]⟩| some s=>⟨[(0,nat a),(1,.int .i64 (fun _=>(k:Int))),(5,.osl 31 1 (fun _=>0) (fun _=>s.1)),(6,.int .u64 (fun _=>(s.2.1:Int))),(7,.int .i64 (fun _=>(s.1:Int)))],[(31,.arr 1 (fun _=>lm s.2.2))]⟩)
  (zU3 a k) (zWL a) none trivial (.le ?_ ?_ rfl) ?_
 {cbv;exact⟨lR,lR,zU rfl (by (try dsimp only [zI] at *);rw[hq,hi0];rfl),zE (by rw[hc0];rfl),zE (by rw[hi0];rfl),trivial⟩};{cbv;exact⟨zB (by (try dsimp only [zI] at *);rw[hq,hout0];rfl),trivial⟩};intro s hs;cases s with
 |none =>
  (have h1:i0<=a.length:=by omega);have h2:c0<2^k:=by omega
  (have h3:out0.length=i0:=by rw[hout0,hi0];rfl);have h4:val out0+B^i0*c0=val (a.take i0)*2^k:=by rw[hout0,hi0,hc0];simp[val]
  clear hi0 hc0 hout0;generalize i0=i at *
  generalize c0=c at *
  generalize out0=out at *
  have hmu:zWL a none=a.length+1:=rfl;cbv;refine zD (fun h5=>?_) (fun h5=>?_)
  ·(have hi:i<a.length:=om;have hx:=yL (a.getD i 0);simp only[B] at hx;have hm:(a.getD i 0).toNat*2^k<4294967296*2^k:=iM hx hk2;have hm2:4294967296*2^k<=4294967296*2147483648:=wW _ (gA (show 0<2 by omega) (show k<=31 by omega));have hS:ior .u64 (c:Int) (ishl .u64 (nx .u64 (((a.getD i 0).toNat:Nat):Int)) (irem (k:Int) 32))=((c+2^k*(a.getD i 0).toNat:Nat):Int):=by rw[hr,xW (n:=(a.getD i 0).toNat) oM,aI oM oM,zMI oM oM,v5 (a.getD i 0).toNat,pH h2]);cbv
   refine xO i om om ?_;cbv;refine⟨uI oM,v9 (by (try dsimp only [zI] at *);rw[hr];omega),?_⟩;refine vW ty33 rfl rfl rfl (by rw[zH,h3]) rfl (bA _) (yB (dE _) (by show (((lm out).length+1:Nat):Int)*4<=70368744177664;rw[zH,h3];omega)) rfl ?_;cbv;obtain⟨i',hi'⟩:∃ x,x=i+1:=⟨_,rfl⟩;obtain⟨c',hc'⟩:∃ x,x=(c+2^k*(a.getD i 0).toNat)/B:=⟨_,rfl⟩;obtain⟨out',ho'⟩:∃ x,x=out++[UInt32.ofNat (c+2^k*(a.getD i 0).toNat)]:=⟨_,rfl⟩;refine⟨v9 oM,zC om om,some (i',c',out'),⟨by show i'<=a.length;omega,?_,by show out'.length=i';rw[ho',hi'];simp[h3],?_⟩,by show a.length-i'<a.length+1;omega,.le ?_ ?_ rfl⟩;{show c'<2^k;rw[hc'];show (c+2^k*(a.getD i 0).toNat)/B<2^k;rw[cQ wI];have:2^k*((a.getD i 0).toNat+1)<=2^k*B:=wW _ (by simp only[B];omega);rw[yE] at this;omega}
   ·(show val out'+B^i'*c'=val (a.take i')*2^k;rw[ho',hc',hi',jU,h3,zR a,xS,w7,<-h4];have hdm:=d6 (c+2^k*(a.getD i 0).toNat) B;have e0:B^i*(a.getD i 0).toNat*2^k=B^i*(2^k*(a.getD i 0).toNat):=by rw[vI,v5 (2^k)]);rw[e0]
    generalize 2^k*(a.getD i 0).toNat=m at *
    generalize (c+m)%B=lo at *
    generalize (c+m)/B=hi' at *
    generalize B^i=P at *
    (have e1:P*lo+P*B*hi'=P*c+P*m:=by rw[vI,<-yE,hdm,yE]);omega
   ·cbv;refine⟨lR,lR,zU rfl (by show (lm out).length+1=i';rw[zH,h3,hi']),zE ?_,zE om,trivial⟩
    (try dsimp only [zI] at *)
    rw[hS,hc'];exact aH _
   ·cbv;refine⟨zB ?_,trivial⟩
    (try dsimp only [zI] at *)
    rw[hS,ho'];exact bG out _
  ·(have hi:a.length<=i:=om;have cm:=lU (out++[UInt32.ofNat c]) (by simp;omega);have hcB:c<B:=gN h2 (by simp only[B];exact gA (show 0<2 by omega) (show k<=32 by omega));rw[yN hi] at h4;have hv:val (out++[UInt32.ofNat c])=val a*2^k:=by rw[jU,h3,wO hcB];exact h4);rw[hv,hW] at cm
   cbv;refine vW ty33 rfl rfl rfl (by rw[zH,h3]) rfl (bA _) (yB (dE _) (by show (((lm out).length+1:Nat):Int)*4<=70368744177664;rw[zH,h3];omega)) rfl ?_;cbv;refine aR (.frz 38 rfl rfl ?_ ?_) rfl (by refine⟨zY ?_,trivial⟩;exact (yN (by show (lm out++[_]).length<=(lm out).length+1;simp)).trans (bG out c)) cm rfl ?_;{cbv;exact⟨yG (by show 0+((lm out).length+1)<=(lm out++[_]).length;simp),trivial⟩};{exact trivial};cbv
   (refine rC ?_;cbv)
   exact lR
 |some s =>
  obtain⟨h1,h2,h3,h4⟩:=hs;obtain⟨i,c,out⟩:=s;simp only at h1 h2 h3 h4;clear hi0 hc0 hout0;cbv;refine zD (fun h5=>?_) (fun h5=>?_)
  ·(have hi:i<a.length:=om;have hx:=yL (a.getD i 0);simp only[B] at hx;have hm:(a.getD i 0).toNat*2^k<4294967296*2^k:=iM hx hk2;have hm2:4294967296*2^k<=4294967296*2147483648:=wW _ (gA (show 0<2 by omega) (show k<=31 by omega));have hS:ior .u64 (c:Int) (ishl .u64 (nx .u64 (((a.getD i 0).toNat:Nat):Int)) (irem (k:Int) 32))=((c+2^k*(a.getD i 0).toNat:Nat):Int):=by rw[hr,xW (n:=(a.getD i 0).toNat) oM,aI oM oM,zMI oM oM,v5 (a.getD i 0).toNat,pH h2]);cbv
   refine xO i om om ?_;cbv;refine⟨uI oM,v9 (by (try dsimp only [zI] at *);rw[hr];omega),?_⟩;refine vW ty33 rfl rfl rfl (by rw[zH,h3]) rfl (bA _) (yB (dE _) (by show (((lm out).length+1:Nat):Int)*4<=70368744177664;rw[zH,h3];omega)) rfl ?_;cbv;obtain⟨i',hi'⟩:∃ x,x=i+1:=⟨_,rfl⟩;obtain⟨c',hc'⟩:∃ x,x=(c+2^k*(a.getD i 0).toNat)/B:=⟨_,rfl⟩;obtain⟨out',ho'⟩:∃ x,x=out++[UInt32.ofNat (c+2^k*(a.getD i 0).toNat)]:=⟨_,rfl⟩;refine⟨v9 oM,zC om om,some (i',c',out'),⟨by show i'<=a.length;omega,?_,by show out'.length=i';rw[ho',hi'];simp[h3],?_⟩,by show a.length-i'<a.length-i;omega,.le ?_ ?_ rfl⟩;{show c'<2^k;rw[hc'];show (c+2^k*(a.getD i 0).toNat)/B<2^k;rw[cQ wI];have:2^k*((a.getD i 0).toNat+1)<=2^k*B:=wW _ (by simp only[B];omega);rw[yE] at this;omega}
   ·(show val out'+B^i'*c'=val (a.take i')*2^k;rw[ho',hc',hi',jU,h3,zR a,xS,w7,<-h4];have hdm:=d6 (c+2^k*(a.getD i 0).toNat) B;have e0:B^i*(a.getD i 0).toNat*2^k=B^i*(2^k*(a.getD i 0).toNat):=by rw[vI,v5 (2^k)]);rw[e0]
    generalize 2^k*(a.getD i 0).toNat=m at *
    generalize (c+m)%B=lo at *
    generalize (c+m)/B=hi' at *
    generalize B^i=P at *
    (have e1:P*lo+P*B*hi'=P*c+P*m:=by rw[vI,<-yE,hdm,yE]);omega
   ·cbv;refine⟨lR,lR,zU rfl (by show (lm out).length+1=i';rw[zH,h3,hi']),zE ?_,zE om,trivial⟩
    (try dsimp only [zI] at *)
    rw[hS,hc'];exact aH _
   ·cbv;refine⟨zB ?_,trivial⟩
    (try dsimp only [zI] at *)
    rw[hS,ho'];exact bG out _
  ·(have hi:a.length<=i:=om;have cm:=lU (out++[UInt32.ofNat c]) (by simp;omega);have hcB:c<B:=gN h2 (by simp only[B];exact gA (show 0<2 by omega) (show k<=32 by omega));rw[yN hi] at h4;have hv:val (out++[UInt32.ofNat c])=val a*2^k:=by rw[jU,h3,wO hcB];exact h4);rw[hv,hW] at cm
   cbv;refine vW ty33 rfl rfl rfl (by rw[zH,h3]) rfl (bA _) (yB (dE _) (by show (((lm out).length+1:Nat):Int)*4<=70368744177664;rw[zH,h3];omega)) rfl ?_;cbv;refine aR (.frz 38 rfl rfl ?_ ?_) rfl (by refine⟨zY ?_,trivial⟩;exact (yN (by show (lm out++[_]).length<=(lm out).length+1;simp)).trans (bG out c)) cm rfl ?_;{cbv;exact⟨yG (by show 0+((lm out).length+1)<=(lm out++[_]).length;simp),trivial⟩};{exact trivial};cbv
   (refine rC ?_;cbv)
   exact lR
end Go.Proofs.YtfainocfaddbdaaGreat
