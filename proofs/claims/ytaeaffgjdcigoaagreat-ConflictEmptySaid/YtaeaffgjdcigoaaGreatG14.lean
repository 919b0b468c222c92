/- A part of the proof: NtC, NtD, PnB. -/
import Derived.Test.YtaeaffgjdcigoaaGreatG13
set_option linter.all false
namespace Go.Proofs.YtaeaffgjdcigoaaGreat
open Go
set_option maxRecDepth 100000
theorem fE (out:List UInt32){k j:Nat}(hk:k=j){z:Int}{w:Nat}(hz:z=(w:Int))(hw:w<B):(lm out).set k [.int .u32 z]=lm (out.set j (UInt32.ofNat w)):=by subst hk hz;rw[<-BQ,xY,qY hw]
theorem B7 (z:Int):ishr .u64 z 63=z/9223372036854775808:=by unfold ishr;simp[IntKind.bits,Sc]
theorem Lr (a b:List UInt32)(ha:a.length<2^40)(hb:b.length<2^40):zD 309 [nat a,nat b] (.tup [nat (zJ (val a-val b)),iV (if val b<=val a then 0 else 2)]):=by
 refine sF Tryz.f309 ?_;cbv;refine cA (b9 a oM) ?_;cbv;refine cA (b9 b oM) ?_;cbv;have ha':=xF (z7 a) ha;have hb':=xF (z7 b) hb;refine cA (HL _ _ ha' hb') ?_;cbv;simp only[zR];refine zE (λh=>?_) (λh=>?_)
 ·(have h':val a<val b:=by grind [Q8,Y8]);cbv
  refine j7 rfl ?_ rfl;refine⟨yX ?_,zB ?_,trivial⟩;{rw[Nat.sub_eq_zero_of_le oM,y4];rfl};omega
 have hle:val b<=val a:=by grind [Y7]
 have hv:val (zJ (val a))=val a:=zR _;have hv2:val (zJ (val b))=val b:=zR _;have hpq:(zJ (val b)).length<=(zJ (val a)).length:=by rcases qW (zJ (val a)).length (zJ (val b)).length with h1|h1;{have:=Zx h1;omega};omega
 generalize zJ (val a)=p at *;generalize zJ (val b)=q at *;cbv;refine⟨z5 om om,kX om om,?_⟩;cbv;refine zW (σ:=Nat×Nat×List UInt32) (λs=>⟨[(0,nat p),(1,nat q),(6,oV 21 1 p.length),(7,.int .u64 (λ_=>(s.2.1:Int))),(22,nat p),(23,iV p.length),(24,iV s.1)],[(21,aV 1 (lm s.2.2))]⟩)
  (λs=>s.1<=p.length/\s.2.1<2/\s.2.2.length=p.length/\val (s.2.2.take s.1)+val (q.take s.1)=val (p.take s.1)+B^s.1*s.2.1) (λs=>p.length-s.1)
  (0,0,List.replicate p.length 0) ⟨om,om,by simp,by simp[val]⟩ (.le ?_ ?_ rfl) ?_
 {cbv;exact⟨lR,lR,zZ rfl om,lR,lR,zB (by (try dsimp only [zY] at *) <;> (grind [zI]) <;> omega),lR,trivial⟩}
 ·(cbv;refine⟨zH ?_,trivial⟩;show List.replicate (((lm p).length:Int)).toNat _=_;have:(((lm p).length:Int)).toNat=p.length:=by grind [zI]);rw[this]
  simp[lm,xE,toD]
 intro s hs;obtain⟨h1,h2,h3,h4⟩:=hs;generalize s.1=i at *;generalize s.2.1=c at *;generalize s.2.2=out at *;cbv;refine zE (λh5=>?_) (λh5=>?_)
 ·cbv;refine xG i (by (grind) <;> (try simp only[zI] at *) <;> omega) om ?_;cbv;have hpi:=yM (p.getD i 0);have hqi:=yM (q.getD i 0);simp only[B] at hpi hqi;refine gD (σ:=Unit) (λ_=>⟨[(0,nat p),(1,nat q),(6,oV 21 1 p.length),(10,.int .u64 (λ_=>nx .u64 (((p.getD i 0).toNat:Int)-(c:Int)-((q.getD i 0).toNat:Int)))),(8,iV i),(22,nat p),(23,iV p.length),(24,iV i)],[(21,aV 1 (lm out))]⟩) (λ_=>True) (λh6=>?_) (λh6=>?_) ?_
  ·cbv;refine xG i (by (grind) <;> (try simp only[zI] at *) <;> omega) om ?_;cbv;refine⟨(),trivial,.le ?_ ?_ rfl⟩
   ·cbv;refine⟨lR,lR,lR,zB ?_,lR,lR,lR,lR,trivial⟩
    (try dsimp only [zY] at *)
    grind [uH]
   {cbv;exact⟨zH rfl,trivial⟩}
  ·cbv;refine⟨(),trivial,.le ?_ ?_ rfl⟩
   ·cbv;refine⟨lR,lR,lR,zB ?_,lR,lR,lR,lR,trivial⟩;have:(q.getD i 0).toNat=0:=by have:q.length<=i:=om;simp_all
    (try dsimp only [zY] at *)
    grind [uH]
   {cbv;exact⟨zH rfl,trivial⟩}
  intro _ _;obtain⟨w,c',hw,hc',he⟩:∃ w c':Nat,w<B/\c'<2/\(p.getD i 0).toNat+B*c'=w+c+(q.getD i 0).toNat:=by simp only[B];by_cases hlt:(p.getD i 0).toNat<c+(q.getD i 0).toNat;{exact⟨(p.getD i 0).toNat+4294967296-c-(q.getD i 0).toNat,1,by omega,by omega,by omega⟩};{exact⟨(p.getD i 0).toNat-c-(q.getD i 0).toNat,0,by omega,by omega,by omega⟩}
  (have hz:nx .u64 (((p.getD i 0).toNat:Int)-(c:Int)-((q.getD i 0).toNat:Int))=if c'=0 then (w:Int) else (w:Int)+18446744069414584320:=by grind [uH,B]);simp only[hz]
  cbv;refine⟨yZ om om,j9 i (by simp) om ?_⟩;cbv;refine⟨v8 oM,zC om om,(i+1,c',out.set i (UInt32.ofNat w)),⟨om,hc',by grind,?_⟩,om,.le ?_ ?_ rfl⟩;{show val ((out.set i (UInt32.ofNat w)).take (i+1))+val (q.take (i+1))=val (p.take (i+1))+B^(i+1)*c';rw[qC _ om,z6 p,z6 q,xY,qY hw];grind};{cbv;refine⟨lR,lR,lR,zB ?_,lR,lR,zB om,trivial⟩;grind [B7,B]};{cbv;refine⟨zH (fE out (by simp) ?_ hw),trivial⟩;grind [gT,B]}
 ·(cbv;have hi:i=p.length:=om;subst hi;refine qF (.trans (.le (ps':=⟨[(52,oV 21 1 p.length)],[(21,aV 1 (lm out))]⟩) ?_ ?_ rfl) (.frz 21 rfl rfl ?_ ?_)) rfl (by refine⟨zS ?_,trivial⟩;grind [zI]) (b9 out oM) rfl ?_;{cbv;exact okA};{cbv;exact⟨zH rfl,trivial⟩};{cbv;exact⟨z8 (by grind [zI]),trivial⟩};{exact trivial};cbv;refine j7 rfl ?_ rfl;rw[yW oM,yW hpq,yW (yD _)] at h4;have hlo:=x5 out;have hlq:=x5 q;have hc0:c=0:=by grind);subst hc0;refine⟨zS ?_,zB ?_,trivial⟩
  all_goals grind
theorem x6 {n:Nat}(h:n<18446744073709551616):nx .u64 (n:Int)=(n:Int):=by grind [uH]
theorem Rw (a b:List UInt32)(ha:a.length<2^40)(hb:b.length<2^40):zD 288 [nat a,nat b] (nat (zJ (val a*val b))):=by
 refine sF Tryz.f288 ?_;cbv;refine cA (b9 a oM) ?_;cbv;refine cA (b9 b oM) ?_;cbv;have ha':=xF (z7 a) ha;have hb':=xF (z7 b) hb;have hv:val (zJ (val a))=val a:=zR _;have hv2:val (zJ (val b))=val b:=zR _;generalize zJ (val a)=p at *;generalize zJ (val b)=q at *
 
 refine zQ (λh=>?_) (λh=>?_);{cbv;refine j7 rfl ?_ rfl;refine yX ?_;have:p=[]:=j3 om;subst this;rw[<-hv];simp[val,y4,lm]};cbv;refine zE (λh'=>?_) (λh'=>?_);{cbv;refine j7 rfl ?_ rfl;refine yX ?_;have:q=[]:=j3 om;subst this;rw[<-hv2];simp[val,y4,lm]};cbv;refine⟨zC om om,z5 om om,kX om om,?_⟩;cbv;refine zW (σ:=Nat×List UInt32) (λs=>⟨[(0,nat p),(1,nat q),(5,oV 28 1 (p.length+q.length)),(29,nat p),(30,iV p.length),(31,iV s.1)],[(28,aV 1 (lm s.2))]⟩)
  (λs=>s.1<=p.length/\s.2.length=p.length+q.length/\val s.2=val (p.take s.1)*val q/\∀ j,s.1+q.length<=j->s.2.getD j 0=0) (λs=>p.length-s.1)
  (0,List.replicate (p.length+q.length) 0) ⟨om,by simp,by simp[val,gW],λj _=>by grind⟩ (.le ?_ ?_ rfl) ?_
 {cbv;exact⟨lR,lR,zZ rfl om,lR,zB (by (try dsimp only [zY] at *) <;> (grind [zI]) <;> omega),lR,trivial⟩}
 ·(cbv;refine⟨zH ?_,trivial⟩;show List.replicate (((lm p).length:Int)+((lm q).length:Int)).toNat _=_;have:(((lm p).length:Int)+((lm q).length:Int)).toNat=p.length+q.length:=by grind [zI]);rw[this]
  simp[lm,xE,toD]
 intro s hs;obtain⟨h1,h2,h3,h4⟩:=hs;generalize s.1=i at *;generalize s.2=out at *;cbv;refine zE (λh5=>?_) (λh5=>?_)
 ·cbv;refine xG i (by (grind) <;> (try simp only[zI] at *) <;> omega) om ?_;cbv;have hx:=yM (p.getD i 0);generalize hpx:(p.getD i 0).toNat=x at *;refine zW (σ:=Nat×Nat×List UInt32) (λs=>⟨[(0,nat p),(1,nat q),(5,oV 28 1 (p.length+q.length)),(29,nat p),(30,iV p.length),(31,iV i),(6,iV i),(7,.int .u32 (λ_=>(x:Int))),(8,.int .u64 (λ_=>(s.2.1:Int))),(36,nat q),(37,iV q.length),(38,iV s.1)],[(28,aV 1 (lm s.2.2))]⟩)
   (λs=>s.1<=q.length/\s.2.1<B/\s.2.2.length=p.length+q.length/\val s.2.2+B^(i+s.1)*s.2.1=val (p.take i)*val q+B^i*(x*val (q.take s.1))/\∀ j,i+q.length<=j->s.2.2.getD j 0=0) (λs=>q.length-s.1)
   (0,0,out) ⟨om,w8,h2,by simp[val,h3],h4⟩ (.le ?_ ?_ rfl) ?_
  {cbv;exact⟨lR,lR,lR,lR,lR,lR,lR,lR,lR,lR,zB (by (try dsimp only [zY] at *) <;> (grind [zI]) <;> omega),lR,trivial⟩};{cbv;exact⟨zH rfl,trivial⟩};intro s hs;obtain⟨g1,g2,g3,g4,g5⟩:=hs;generalize s.1=k at *;generalize s.2.1=c at *;generalize s.2.2=out' at *;cbv;refine zE (λh6=>?_) (λh6=>?_)
  ·(cbv;refine xG k (by (grind) <;> (try simp only[zI] at *) <;> omega) om ?_;cbv;have hik:0+((i:Int)+(k:Int)).toNat=i+k:=by omega);refine⟨zC om om,yZ om om,j9 (i+k) hik om ?_⟩
   (cbv;refine⟨zC om om,yZ om om,j9 (i+k) hik om ?_⟩;cbv;have hy:=yM (q.getD k 0);have ho:=yM (out'.getD (i+k) 0);have hset:=rD out' (j:=i+k) om (UInt32.ofNat (c+(x*(q.getD k 0).toNat+(out'.getD (i+k) 0).toNat)));have htk:=z6 q k;generalize hqy:(q.getD k 0).toNat=y at *;generalize hoo:(out'.getD (i+k) 0).toNat=o at *;have hm:x*y<=4294967295*4294967295:=Nat.mul_le_mul (by grind [B]) (by grind [B]);have hB:B=4294967296:=rfl;have hT:nx .u64 ((c:Int)+nx .u64 (nx .u64 (nx .u64 (x:Int)*nx .u64 (y:Int))+nx .u64 (o:Int)))=((c+(x*y+o):Nat):Int):=by rw[x6 (n:=x) oM,x6 (n:=y) oM,x6 (n:=o) oM,<-Int.natCast_mul,x6 (n:=x*y) oM,<-Int.natCast_add,x6 (n:=x*y+o) oM,<-Int.natCast_add,x6 oM]);refine⟨v8 oM,zC om om,(k+1,(c+(x*y+o))/B,out'.set (i+k) (UInt32.ofNat (c+(x*y+o)))),⟨om,?_,by grind,?_,?_⟩,om,.le ?_ ?_ rfl⟩
   {grind}
   ·show val (out'.set (i+k) (UInt32.ofNat (c+(x*y+o))))+B^(i+(k+1))*((c+(x*y+o))/B)=val (p.take i)*val q+B^i*(x*val (q.take (k+1)));rw[htk];rw[xY] at hset;have e0:∀ t,B^(i+k)*(t%B)+B^(i+(k+1))*(t/B)=B^(i+k)*t:=by
     (intro t;have:i+(k+1)=(i+k)+1:=by omega);rw[this,uC,gF,<-qO,Vm]
    grind
   {intro j hj;show (out'.set (i+k) _).getD j 0=0;rw[tP _ _ _ _ (by exact om)];grind};{cbv;refine⟨lR,lR,lR,lR,lR,lR,lR,lR,zB ?_,lR,lR,zB om,trivial⟩;exact (congrArg (λz=>ishr .u64 z 32) hT).trans (sQ _)};{cbv;refine⟨zH ?_,trivial⟩;exact (congrArg (λz=>(lm out').set (0+((i:Int)+(k:Int)).toNat) [.int .u32 (nx .u32 z)]) hT).trans (fF out' hik _)}
  ·(cbv;have hkq:k=q.length:=om;subst hkq;have hlq:0+((i:Int)+((lm q).length:Int)).toNat=i+q.length:=by grind [zI]);refine⟨zC om om,yZ om om,j9 (i+q.length) hlq om ?_⟩
   cbv;refine⟨zC om om,(i+1,out'.set (i+q.length) (UInt32.ofNat c)),⟨om,by grind,?_,?_⟩,om,.le ?_ ?_ rfl⟩;{show val (out'.set (i+q.length) (UInt32.ofNat c))=val (p.take (i+1))*val q;have hset:=rD out' (j:=i+q.length) om (UInt32.ofNat c);rw[g5 _ (yD _),xY,qY g2] at hset;rw[yW (yD _)] at g4;rw[z6 p,hpx,gI,gF];grind};{grind [tP]};{cbv;exact⟨lR,lR,lR,lR,lR,zB om,trivial⟩};{cbv;exact⟨zH (fF out' hlq c),trivial⟩}
 {cbv;have hip:i=p.length:=om;subst hip;refine qF (.trans (.le (ps':=⟨[(77,oV 28 1 (p.length+q.length))],[(28,aV 1 (lm out))]⟩) ?_ ?_ rfl) (.frz 28 rfl rfl ?_ ?_)) rfl (by refine⟨zS ?_,trivial⟩;grind [zI]) (b9 out oM) rfl ?_;{cbv;exact okA};{cbv;exact⟨zH rfl,trivial⟩};{cbv;exact⟨z8 (by grind [zI]),trivial⟩};{exact trivial};cbv;refine j7 rfl ?_ rfl;rw[yW (yD _)] at h3;refine zS ?_;grind}
end Go.Proofs.YtaeaffgjdcigoaaGreat
namespace Go.Proofs.YtaeaffgjdcigoaaGreat
def pad (n m:Nat):List UInt32:=zJ n++List.replicate (m-(zJ n).length) 0
theorem HY {l:List UInt32}{n m:Nat}(hl:l.length=m)(hv:val l=n):l=pad n m:=by
 have h1:(zJ n).length<=m:=by rw[<-hv,<-hl];exact z7 l
 refine YU ?_ ?_
 all_goals grind [pad,vL,gW,zR]
theorem sJ {n m:Nat}(h:n<B^m):(pad n m).length=m:=by have:=yF h;grind [pad]
theorem oA (n m:Nat):val (pad n m)=n:=by grind [pad,vL,gW,zR]
theorem Cm {l:List UInt32}{n:Nat}(hl:l.length=n+2):val l=val (l.take n)+B^n*((l.getD (n+1) 0).toNat*B+(l.getD n 0).toNat):=by have h1:=z6 l n;have h2:=z6 l (n+1);rw[List.take_of_length_le (by omega)] at h2;rw[h2,h1,Nat.pow_succ,Nat.mul_add,Nat.mul_assoc,Nat.mul_comm B];omega
theorem Cl {l:List UInt32}{n:Nat}(hl:l.length=n+3):val l=val (l.take n)+B^n*(((l.getD (n+2) 0).toNat*B+(l.getD (n+1) 0).toNat)*B+(l.getD n 0).toNat):=by
 have h1:=z6 l n;have h2:=z6 l (n+1);have h3:=z6 l (n+2);rw[List.take_of_length_le (by omega)] at h3;rw[h3,h2,h1];have e:B^(n+2)=B^n*(B*B):=by grind
 rw[e,Nat.pow_succ,Nat.mul_add,Nat.add_mul,Nat.mul_add,Nat.mul_assoc,Nat.mul_assoc];grind
structure EstInv (U V P top v1 v2 u2:Nat) (q r:Nat):Prop where
 top:q*v1+r=top
 lo:U<(q+1)*V
theorem AG {U V P top v1 v2 u2 ur vr:Nat}(hv1:0<v1)(hU:U=ur+P*(top*B+u2))(hV:V=vr+P*(v1*B+v2))(hur:ur<P)(hu2:u2<B):EstInv U V P top v1 v2 u2 (top/v1) (top%v1):=by
 refine⟨by rw[Nat.mul_comm];exact Nat.div_add_mod top v1,?_⟩;have h1:top+1<=(top/v1+1)*v1:=by have:=Nat.div_add_mod top v1;have:=Nat.mod_lt top hv1;grind
 have h2:(top+1)*B<=(top/v1+1)*(v1*B+v2):=by rw[Nat.mul_add,<-Nat.mul_assoc];exact Nat.le_trans (Nat.mul_le_mul_right B h1) (Nat.le_add_right _ _)
 have h3:top*B+u2+1<=(top+1)*B:=by grind
 have h4:=Nat.mul_le_mul_left P (Nat.le_trans h3 h2);have h5:(top/v1+1)*V=(top/v1+1)*vr+P*((top/v1+1)*(v1*B+v2)):=by grind
 have h6:P*(top*B+u2+1)=P*(top*B+u2)+P:=by grind
 omega
theorem AF {U V P top v1 v2 u2 ur vr q r:Nat}(hU:U=ur+P*(top*B+u2))(hV:V=vr+P*(v1*B+v2))(hur:ur<P) (ht:q*v1+r=top) (h:r*B+u2<q*v2):U<q*V:=by
 have h1:top*B+u2+1<=q*(v1*B+v2):=by rw[<-ht,Nat.mul_add,Nat.add_mul,Nat.mul_assoc];omega
 have h2:=Nat.mul_le_mul_left P h1;have h3:q*V=q*vr+P*(q*(v1*B+v2)):=by grind
 have h4:P*(top*B+u2+1)=P*(top*B+u2)+P:=by grind
 omega
theorem AE {U V P top v1 v2 u2 q r:Nat}(hq:0<q)(ht:q*v1+r=top)(h:U<q*V):EstInv U V P top v1 v2 u2 (q-1) (r+v1):=by obtain⟨k,rfl⟩:∃ k,q=k+1:=⟨q-1,by omega⟩;refine⟨?_,by grind⟩;grind
theorem UR {U V P top v1 v2 u2 ur vr q r:Nat}(hv1:0<v1)(hU:U=ur+P*(top*B+u2))(hV:V=vr+P*(v1*B+v2))(hvr:vr<P) (ht:q*v1+r=top) (hq:q<=B) (h:q*v2<=r*B+u2):q*V<=U+V:=by
 have h1:q*(v1*B+v2)<=top*B+u2:=by rw[<-ht,Nat.mul_add,Nat.add_mul,Nat.mul_assoc];omega
 have h2:=Nat.mul_le_mul_left P h1;have h3:q*V=q*vr+P*(q*(v1*B+v2)):=by grind
 have h4:q*vr<=B*P:=Nat.mul_le_mul hq (Nat.le_of_lt hvr);have h5:B*P<=P*(v1*B+v2):=by rw[Nat.mul_comm B P];refine Nat.mul_le_mul_left P (Nat.le_trans (?_:B<=v1*B) (Nat.le_add_right _ _));exact Nat.le_mul_of_pos_left B hv1
 omega
def iF (v1 v2 u2 q r:Nat):Nat :=
 if h:B<=r\/v1=0 then q
 else if B<=q\/r*B+u2<q*v2 then (if B<=r+v1 then q-1 else iF v1 v2 u2 (q-1) (r+v1)) else q
termination_by B-r
decreasing_by omega
structure Est (U V q:Nat):Prop where
 b:q<B
 lo:U<(q+1)*V
 hi:q*V<=U+V
theorem JO {U V P top v1 v2 u2 ur vr:Nat}(hv1:0<v1)(hv2:v2<B)(hu2:u2<B)(hU:U=ur+P*(top*B+u2))(hV:V=vr+P*(v1*B+v2))(hur:ur<P)(hvr:vr<P)(hlt:U<B*V)(htop:top<v1*B+B):∀ n q r,B-r<=n->EstInv U V P top v1 v2 u2 q r->r<B->q<=B+1->Est U V (iF v1 v2 u2 q r)
 |0,q,r,hn,hi,hr,hq=>by omega| n+1,q,r,hn,hi,hr,hq=>by
  rw[iF];rw[dif_neg (by omega)];by_cases hc:B<=q\/r*B+u2<q*v2
  ·(rw[if_pos hc];have hq0:0<q:=by grind);have hover:U<q*V:=by rcases hc with h|h;{exact Nat.lt_of_lt_of_le hlt (Nat.mul_le_mul_right V h)};{exact AF hU hV hur hi.top h}
   have hst:=AE (P:=P) (v2:=v2) (u2:=u2) hq0 hi.top hover;by_cases h2:B<=r+v1
   ·(rw[if_pos h2];have hqB:q-1<B:=by rcases Nat.lt_or_ge (q-1) B with h|h;{exact h};{have h3:=hst.top;have h4:=Nat.mul_le_mul_right v1 h;rw[Nat.mul_comm B v1] at h4;omega});refine⟨hqB,hst.lo,UR (r:=r+v1) (v2:=v2) (u2:=u2) hv1 hU hV hvr hst.top (Nat.le_of_lt hqB) ?_⟩;have h5:(q-1)*v2<=B*B:=Nat.mul_le_mul (Nat.le_of_lt hqB) (Nat.le_of_lt hv2);grind [B]
   {rw[if_neg h2];exact JO hv1 hv2 hu2 hU hV hur hvr hlt htop n _ _ (by omega) hst (by omega) (by omega)}
  ·(rw[if_neg hc];have h1:q<B:=by omega);exact⟨h1,hi.lo,UR hv1 hU hV hvr hi.top (Nat.le_of_lt h1) (by omega)⟩
def YG (U V q:Nat):Nat:=if q*V<=U then q else q-1
theorem AM {U V q:Nat}(hV:0<V)(h:Est U V q):YG U V q=U/V:=by
 unfold YG;split;{rename_i h1;exact (Nat.div_eq_of_lt_le h1 h.lo).symm}
 ·(rename_i h1;have h1:U<q*V:=by omega);have hq:q≠0:=λe=>by grind
  obtain⟨k,rfl⟩:∃ k,q=k+1:=⟨q-1,by omega⟩;have h2:=h.hi;rw[Nat.add_mul,Nat.one_mul] at h2;grind [Nat.div_eq_of_lt_le]
theorem oC {l:List UInt32}(n:Nat)(h:n<=l.length):val l=val (l.take n)+B^n*val (l.drop n):=by
 have e:(l.take n).length=n:=by grind
 calc val l=val (l.take n++l.drop n):=by simp_all
  _=_:=by rw[vL,e]
theorem kO {l:List UInt32}{i:Nat}(h:i<l.length):val (l.drop i)=(l.getD i 0).toNat+B*val (l.drop (i+1)):=by
 have:l.drop i=l.getD i 0::l.drop (i+1):=by simp_all
 rw[this];rfl
theorem Xf {l:List UInt32}(n:Nat)(hn:n<=l.length)(h:val l<B^n):val (l.drop n)=0:=by have h1:=oC n hn;rcases Nat.eq_zero_or_pos (val (l.drop n)) with h2|h2;{exact h2};{have:=Nat.mul_le_mul_left (B^n) h2;omega}
theorem D7 {pre x post:List UInt32}{V n q:Nat}(hx:x.length=n+1)(hpost:val post=0)(hV:val x<V*B)(hVn:V<B^n)(h0:0<V)(hq:q=val x/V):q<B/\val (pad (val x-q*V) (n+1)++post)<V /\ val (pre++(pad (val x-q*V) (n+1)++post))+V*(B^pre.length*q)=val (pre++(x++post)):=by
 have hmod:val x-q*V=val x%V:=by grind [Nat.div_add_mod]
 have hlt:=Nat.mod_lt (val x) h0;refine⟨by rw[hq,Nat.div_lt_iff_lt_mul h0,Nat.mul_comm];exact hV,?_,?_⟩;{grind [vL,oA]};{rw[vL,vL,vL,vL,oA,hpost,hmod];simp only[Nat.mul_zero,Nat.add_zero];grind [Nat.div_add_mod]}
end Go.Proofs.YtaeaffgjdcigoaaGreat
