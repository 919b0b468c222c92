/- A part of the proof: PnA, NtA, NtB, NtC, NtD, PnB. -/
import Derived.Test.YtboocdbmnfjomaaGreatV13
set_option linter.all false
namespace Go.Proofs.YtboocdbmnfjomaaGreat
def B:Nat:=4294967296
theorem vY:0<B:=by decide
theorem yT (x:UInt32):x.toNat<B:=x.toNat_lt
def val:List UInt32->Nat
 |[]=>0| x::r=>x.toNat+B*val r
def zL (n:Nat):List UInt32 :=
 if h:n=0 then [] else UInt32.ofNat (n%B)::zL (n/B)
termination_by n
decreasing_by exact Nat.div_lt_self (by omega) (by decide)
theorem yV:zL 0=[]:=by rw[zL];simp
theorem aU {n:Nat}(h:n≠0):zL n=UInt32.ofNat (n%B)::zL (n/B):=by grind [zL]
theorem aS (n:Nat):(UInt32.ofNat (n%B)).toNat=n%B:=by rw[UInt32.toNat_ofNat'];exact Nat.mod_eq_of_lt (Nat.mod_lt _ vY)
theorem zQ (n:Nat):val (zL n)=n:=by
 induction n using Nat.strongRecOn with
 |_ n ih =>
  by_cases h:n=0;{subst h;rw[yV];rfl};{rw[aU h,val,aS,ih (n/B) (Nat.div_lt_self (by omega) (by decide))];exact Nat.mod_add_div n B}
theorem vJ:∀ (a b:List UInt32),val (a++b)=val a+B^a.length*val b
 |[],b=>by simp[val]| x::a,b=>by simp only[List.cons_append,val,List.length_cons,vJ a b];grind
theorem xZ:∀ (l:List UInt32),val l<B^l.length
 |[]=>by simp[val]| x::r=>by have h1:=xZ r;have h2:=yT x;have h3:B*(val r+1)<=B*B^r.length:=Nat.mul_le_mul_left _ h1;simp only[val,List.length_cons,Nat.pow_succ];rw[Nat.mul_comm (B^r.length) B];rw[Nat.mul_add] at h3;omega
def bP:List UInt32->Bool
 |[]=>true| [x]=>x != 0| _::y::r=>bP (y::r)
theorem WG (x:UInt32){r:List UInt32}(h:r≠[]):bP (x::r)=bP r:=by
 cases r with
 |nil=>grind| cons y r=>rfl
theorem Ui:∀ {l:List UInt32},bP l=true->l≠[]->0<val l
 |[],_,h=>absurd rfl h| [x],h,_=>by
  (have h1:x≠0:=by grind [bP]);have:x.toNat≠0:=λe=>h1 (UInt32.toNat_inj.1 e)
  grind [val]
 |x::y::r,h,_=>by have h1:=Ui (l:=y::r) h (by simp);grind [B,val]
theorem nT:∀ {l:List UInt32},bP l=true->zL (val l)=l
 |[],_=>by simp[val,yV]| x::r,h=>by
  have hp:=Ui h (by simp);rw[aU (by omega)];have hx:=yT x;have h1:val (x::r)%B=x.toNat:=by simp only[val];rw[Nat.add_mul_mod_self_left,Nat.mod_eq_of_lt hx]
  (have h2:val (x::r)/B=val r:=by grind [val,Nat.add_mul_div_left,Nat.div_eq_of_lt]);rw[h1,h2]
  have hr:bP r=true:=by
   cases r with
   |nil=>rfl| cons y r=>exact h
  rw[nT hr];simp_all
theorem rI (n:Nat):bP (zL n)=true:=by
 induction n using Nat.strongRecOn with
 |_ n ih =>
  by_cases h:n=0;{subst h;rw[yV];rfl}
  ·rw[aU h];by_cases h2:n/B=0
   ·(rw[h2,yV];have hlt:n<B:=(Nat.div_eq_zero_iff_lt vY).1 h2;have:(UInt32.ofNat (n%B)).toNat≠0:=by grind [aS,Nat.mod_eq_of_lt]);simp only[bP,bne_iff_ne,ne_eq]
    exact λe=>this (by simp_all)
   {rw[WG _ (by grind [aU])];exact ih _ (Nat.div_lt_self (by omega) (by decide))}
theorem iZ (l:List UInt32)(x:UInt32):bP (l++[x])=(x != 0):=by
 induction l with
 |nil=>rfl| cons y l ih=>rw[List.cons_append,WG _ (by simp),ih]
theorem Vp (l:List UInt32):val (l++[0])=val l:=by rw[vJ];simp[val]
theorem Yz:∀ {a b:List UInt32},a.length=b.length->val a=val b->a=b
 |[],[],_,_=>rfl| x::a,y::b,hl,hv=>by
  (simp only[val] at hv;have hx:=yT x;have hy:=yT y;have h1:x.toNat=y.toNat:=by have:=congrArg (· % B) hv;grind [Nat.add_mul_mod_self_left,Nat.mod_eq_of_lt]);have h2:val a=val b:=by rw[h1] at hv;exact Nat.eq_of_mul_eq_mul_left vY (Nat.add_left_cancel hv)
  rw[UInt32.toNat_inj.1 h1,Yz (by grind) h2]
 |[],y::b,hl,_=>by grind| x::a,[],hl,_=>by grind
theorem yL {n k:Nat}(h:n<B^k):(zL n).length<=k:=by
 induction k generalizing n with
 |zero =>
  grind [yV]
 |succ k ih =>
  by_cases h0:n=0;{grind}
  ·(rw[aU h0,List.length_cons];have:n/B<B^k:=by rw[Nat.div_lt_iff_lt_mul vY];grind);grind
theorem z8 (l:List UInt32):(zL (val l)).length<=l.length:=yL (xZ l)
theorem Yv {n k:Nat}(h:B^k<=n):k<(zL n).length:=by rcases Nat.lt_or_ge k (zL n).length with h'|h';{exact h'};{have h1:=xZ (zL n);rw[zQ] at h1;have:B^(zL n).length<=B^k:=Nat.pow_le_pow_right vY h';omega}
theorem wA {n:Nat}:zL n=[]↔n=0:=by constructor;{intro h;have:=zQ n;rw[h] at this;exact this.symm};{intro h;subst h;exact yV}
theorem aP (l:List UInt32){n:Nat}(h:n<l.length):l.take (n+1)=l.take n++[l.getD n 0]:=by simp_all
theorem nH (l:List UInt32){m:Nat}(h:m<l.length):val l=val (l.take m)+B^m*((l.getD m 0).toNat+B*val (l.drop (m+1))):=by
 have e:l=l.take m++(l.getD m 0::l.drop (m+1)):=by simp_all
 have hl:(l.take m).length=m:=by grind
 calc val l=val (l.take m++(l.getD m 0::l.drop (m+1))):=by grind
  _=_:=by rw[vJ,hl];rfl
theorem wY (l:List UInt32)(m:Nat):val (l.take m)<B^m:=by
 have h1:=xZ (l.take m);have h2:(l.take m).length<=m:=by grind
 exact Nat.lt_of_lt_of_le h1 (Nat.pow_le_pow_right vY h2)
theorem BL {a b:List UInt32}{m:Nat}(ha:m<a.length)(hb:m<b.length)(hd:a.drop (m+1)=b.drop (m+1))(h:(a.getD m 0).toNat<(b.getD m 0).toNat):val a<val b:=by
 rw[nH a ha,nH b hb,hd];have h1:=wY a m;have h2:(a.getD m 0).toNat+1+B*val (b.drop (m+1))<=(b.getD m 0).toNat+B*val (b.drop (m+1)):=by omega
 have h3:=Nat.mul_le_mul_left (B^m) h2;grind
theorem Za {n m:Nat}(h:(zL n).length<(zL m).length):n<m:=by have h1:=xZ (zL n);rw[zQ] at h1;rcases Nat.lt_or_ge n m with h'|h';{exact h'};{have h2:=yL (Nat.lt_of_le_of_lt h' h1);omega}
def qV (a b:Nat):Int:=if a<b then -1 else if b<a then 1 else 0
theorem YV {a b:Nat}(h:a<b):qV a b=-1:=by simp[qV,h]
theorem YW {a b:Nat}(h:b<a):qV a b=1:=by simp[qV,h,Nat.not_lt.2 (Nat.le_of_lt h)]
theorem Qr (a:Nat):qV a a=0:=by simp[qV]
theorem QQ (l:List UInt32)(x:UInt32):val (l++[x])=val l+B^l.length*x.toNat:=by rw[vJ];simp[val]
theorem lK (l:List UInt32){n:Nat}(h:n<l.length):val (l.take (n+1))=val (l.take n)+B^n*(l.getD n 0).toNat:=by grind [aP,QQ]
theorem z7 (l:List UInt32)(n:Nat):val (l.take (n+1))=val (l.take n)+B^n*(l.getD n 0).toNat:=by rcases Nat.lt_or_ge n l.length with h|h;{exact lK l h};{rw[List.take_of_length_le (by omega),List.take_of_length_le h];simp_all}
theorem u5 (l:List UInt32){n:Nat}(h:n<l.length)(x:UInt32):val ((l.set n x).take (n+1))=val (l.take n)+B^n*x.toNat:=by rw[lK _ (by grind)];congr 2;{rw[List.take_set_of_le (Nat.le_refl _)]};grind
theorem xX (n:Nat):(UInt32.ofNat n).toNat=n%B:=by rw[UInt32.toNat_ofNat'];rfl
theorem s8 (l:List UInt32){j:Nat}(h:j<l.length)(x:UInt32):val (l.set j x)+B^j*(l.getD j 0).toNat=val l+B^j*x.toNat:=by
 have hs:j<(l.set j x).length:=by grind
 rw[nH l h,nH (l.set j x) hs];have e1:(l.set j x).take j=l.take j:=List.take_set_of_le (Nat.le_refl _);have e2:(l.set j x).drop (j+1)=l.drop (j+1):=by rw[List.drop_set_of_lt (by omega)]
 grind
theorem fL (n:Nat):val (List.replicate n 0)=0:=by
 induction n with
 |zero=>rfl| succ n ih=>simp[List.replicate_succ,val,ih]
theorem p9 (l:List UInt32)(j k:Nat)(x:UInt32)(h:j≠k):(l.set j x).getD k 0=l.getD k 0:=by grind
end Go.Proofs.YtboocdbmnfjomaaGreat
namespace Go.Proofs.YtboocdbmnfjomaaGreat
open Go
set_option maxRecDepth 100000
theorem aB (l:List UInt32)(hl:l.length<2^44):zH 188 [nat l] (nat (zL (val l))):=by
 refine sF Tryz.f188 ?_;cbv;refine zY (σ:=Nat) (λn=>⟨[(0,nat l),(2,.nil),(3,iV n)],[]⟩) (λn=>n<=l.length/\val (l.take n)=val l) (λn=>n) l.length ⟨yQ _,by simp⟩ (.le ?_ trivial rfl) ?_;{cbv;exact⟨lR,lR,zF (by simp[zJ]),trivial⟩};intro n hn;cbv;refine zX (λh=>?_) (λh=>?_)
 ·(try dsimp only [zS] at *)
  obtain⟨m,rfl⟩:∃ m,n=m+1:=⟨n-1,by omega⟩;cbv;refine⟨zE om om,xM m om om ?_⟩;cbv;refine zG (λh2=>?_) (λh2=>?_)
  ·cbv;refine⟨zE om om,m,⟨om,?_⟩,om,.le ?_ trivial rfl⟩
   ·(have e:l.getD m 0=0:=by have:(l.getD m 0).toNat=0:=om;exact Zf.1 this);grind [aP,Vp]
   {cbv;exact⟨lR,lR,zF om,trivial⟩}
  ·(cbv;refine zG (λh3=>om) (λh3=>?_);cbv;refine⟨qY om om om,iO l,?_⟩;cbv;refine jL rfl ?_ rfl;refine zU ?_;have e:l.getD m 0≠0:=λe=>by (try dsimp only [zS] at *);simp_all);grind [Gi,nT,aP,iZ]
 {cbv;refine zG (λh3=>?_) (λh3=>om);cbv;refine jL rfl ?_ rfl;refine xC ?_;have:n=0:=om;subst this;rw[<-hn.2];simp[val,yV,lm]}
theorem Pc:ty 25=.sli 1 4 [.int .u32 (λ_=>0)]:=by cbv
theorem NU (l:List UInt32)(hl:l.length<2^40):zH 228 [nat l] (nat l):=by refine sF Tryz.f228 ?_;cbv;refine⟨λb hb=>?_⟩;cbv;refine zZ (λh=>?_) (λh=>?_);{cbv;refine jL rfl ?_ rfl;exact xC (hb h)};{cbv;refine xT Pc rfl rfl rfl rfl rfl (iO l) (zV om (by simp only[dU];(try dsimp only [zS] at *) <;> (try simp only[zJ] at *) <;> omega)) rfl ?_;cbv;refine Fn (.frz 7 rfl rfl ?_ ?_) rfl ?_ rfl;{cbv;exact⟨z6 (by simp),z6 (by simp),trivial⟩};{exact trivial};{refine zU ?_;simp}}
theorem D6 (l:List UInt32)(hl:l.length<2^40):zH 196 [nat l] (nat (zL (val l))):=by refine sF Tryz.f196 ?_;cbv;refine cA (aB l oM) ?_;cbv;refine cA (NU _ (xR (z8 l) hl)) ?_;cbv;refine jL rfl ?_ rfl;exact lR
theorem tJ {l:List UInt32}(h:l≠[]):bP l=(l.getD (l.length-1) 0 != 0):=by
 have:l=l.dropLast++[l.getD (l.length-1) 0]:=by rw[wM,<-List.getLast?_eq_getElem?,List.getLast?_eq_some_getLast h];exact (List.dropLast_concat_getLast h).symm
 grind [iZ]
theorem Ao (x:UInt32):(x != 0)=!decide ((x.toNat:Int)=0):=by rw[rK];simp only[bne_iff_ne,ne_eq,WY,decide_eq_false_iff_not];constructor;{intro h e;exact h (Zf.1 (by grind))};{intro h e;simp_all}
theorem N4 (l:List UInt32)(hl:l.length<2^40):zH 129 [nat l] (zM (bP l)):=by
 refine sF Tryz.f129 ?_;cbv;refine zX (λh=>?_) (λh=>?_);{cbv;refine jL rfl ?_ rfl;refine yN ?_;have:l=[]:=gO om;subst this;rfl}
 ·(cbv;refine⟨zE om om,xM (l.length-1) om om ?_⟩;cbv;refine jL rfl ?_ rfl;refine vW ?_;have hne:l≠[]:=λe=>by subst e;exact h rfl);rw[tJ hne]
  exact Ao _
theorem Sg (x:Nat)(hx:x<B*B):zH 230 [.int .u64 (λ_=>(x:Int))] (nat (zL x)):=by
 refine sF Tryz.f230 ?_;cbv;refine⟨uD oM,?_⟩;refine xI rfl (by
  (refine⟨zU ?_,trivial⟩;have h1:ishr .u64 (x:Int) 32=((x/B:Nat):Int):=by unfold ishr;simp[IntKind.bits,B,Aa]);have h2:x/B<B:=Nat.div_lt_of_lt_mul hx;simp only[zI,y7,toD,lm,kK,WV,zS,h1,gV,aS];grind [UInt32.toNat_ofNat',B]) (aB [UInt32.ofNat (x%B),UInt32.ofNat (x/B)] (by simp)) rfl ?_
 cbv;refine jL rfl ?_ rfl;refine zU ?_;have h2:x/B<B:=Nat.div_lt_of_lt_mul hx;have:val [UInt32.ofNat (x%B),UInt32.ofNat (x/B)]=x:=by simp only[val,aS];rw[UInt32.toNat_ofNat',kL (show x/B<2^32 from h2),Nat.mul_zero,tM];exact WU x B
 rw[this]
theorem JV (a b:List UInt32)(ha:a.length<2^40)(hb:b.length<2^40):zH 130 [nat a,nat b] (iV (qV (val a) (val b))):=by
 refine sF Tryz.f130 ?_;cbv;refine cA (aB a oM) ?_;cbv;refine cA (aB b oM) ?_;cbv;have ha':=xR (z8 a) ha;have hb':=xR (z8 b) hb;refine zG (λh=>?_) (λh=>?_)
 ·cbv;have hl:(zL (val a)).length=(zL (val b)).length:=om;refine⟨zE om om,?_⟩;refine zY (σ:=Nat) (λn=>⟨[(0,nat (zL (val a))),(1,nat (zL (val b))),(5,iV ((n:Int)-1))],[]⟩) (λn=>n<=(zL (val a)).length/\(zL (val a)).drop n=(zL (val b)).drop n) (λn=>n) (zL (val a)).length ⟨yQ _,by simp[hl]⟩ (.le ?_ trivial rfl) ?_;{cbv;exact⟨lR,lR,zF (by (try dsimp only [zS] at *) <;> (grind [zJ]) <;> omega),trivial⟩};intro n hn;cbv;refine zG (λh2=>?_) (λh2=>?_)
  ·(try dsimp only [zS] at *)
   obtain⟨m,rfl⟩:∃ m,n=m+1:=⟨n-1,by omega⟩;cbv;refine zP 9 (by cbv) ?_;cbv;refine xM m om om ?_;cbv;refine xM m om om ?_;cbv;refine zG (λh3=>?_) (λh3=>?_)
   ·cbv;refine⟨zE om om,m,⟨om,?_⟩,om,.le ?_ trivial rfl⟩
    ·(try dsimp only [zS] at *)
     grind [UInt32.toNat_inj,List.drop_eq_getElem_cons]
    {cbv;exact⟨lR,lR,zF om,trivial⟩}
   {cbv;refine zP 9 (by cbv) ?_;cbv;refine xM m om om ?_;cbv;refine xM m om om ?_;cbv;refine zG (λh4=>?_) (λh4=>?_);{cbv;refine jL rfl ?_ rfl;refine zF ?_;have:=BL (a:=zL (val a)) (b:=zL (val b)) (m:=m) om om hn.2 om;rw[zQ,zQ] at this;rw[YV this]};{cbv;refine jL rfl ?_ rfl;refine zF ?_;have:=BL (a:=zL (val b)) (b:=zL (val a)) (m:=m) om om hn.2.symm om;rw[zQ,zQ] at this;rw[YW this]}}
  ·(cbv;refine jL rfl ?_ rfl;refine zF ?_;have h0:n=0:=om;subst h0;have e:zL (val a)=zL (val b):=by grind);have:val a=val b:=by grind [zQ]
   rw[this,Qr]
 {cbv;refine zG (λh2=>?_) (λh2=>?_);{cbv;refine jL rfl ?_ rfl;refine zF ?_;rw[YV (Za om)]};{cbv;refine jL rfl ?_ rfl;refine zF ?_;rw[YW (Za om)]}}
theorem CJ (l:List UInt32)(i:Nat)(x:UInt32):(lm l).set i [.int .u32 x.toNat]=lm (l.set i x):=by simp[lm,List.map_set]
theorem sN (n:Nat):ishr .u64 (n:Int) 32=((n/B:Nat):Int):=by unfold ishr;simp[IntKind.bits,B,Aa]
theorem fW (out:List UInt32){k j:Nat}(hk:k=j)(d:Nat):(lm out).set k [.int .u32 (nx .u32 ((d:Nat):Int))]=lm (out.set j (UInt32.ofNat d)):=by subst hk;rw[<-CJ,xX,gV];simp[B]
theorem NW (a b:List UInt32)(ha:a.length<2^40)(hb:b.length<2^40):zH 194 [nat a,nat b] (nat (zL (val a+val b))):=by
 refine sF Tryz.f194 ?_;cbv;refine cA (aB a oM) ?_;cbv;refine cA (aB b oM) ?_;cbv;have ha':=xR (z8 a) ha;have hb':=xR (z8 b) hb;refine gK (σ:=List UInt32×List UInt32) (λs=>⟨[(0,nat s.1),(1,nat s.2),(4,.nil)],[]⟩) (λs=>s.2.length<=s.1.length/\s.1.length<2^40/\val s.1+val s.2=val a+val b) (λh=>?_) (λh=>?_) ?_;{cbv;refine⟨(zL (val b),zL (val a)),⟨om,hb',by grind [zQ]⟩,.le ?_ trivial rfl⟩;cbv;exact okA};{cbv;refine⟨(zL (val a),zL (val b)),⟨om,ha',by simp only[zQ]⟩,.le ?_ trivial rfl⟩;cbv;exact okA};intro s hs;obtain⟨hpq,hp,hv⟩:=hs;generalize s.1=p at *;generalize s.2=q at *;cbv;refine⟨zE om om,zV om om,uU om om,?_⟩;cbv;refine zY (σ:=Nat×Nat×List UInt32) (λs=>⟨[(0,nat p),(1,nat q),(5,zT 23 1 (p.length+1)),(6,.int .u64 (λ_=>(s.2.1:Int))),(24,nat p),(25,iV p.length),(26,iV s.1)],[(23,zW 1 (lm s.2.2))]⟩)
  (λs=>s.1<=p.length/\s.2.1<2/\s.2.2.length=p.length+1/\val (s.2.2.take s.1)+B^s.1*s.2.1=val (p.take s.1)+val (q.take s.1)) (λs=>p.length-s.1)
  (0,0,List.replicate (p.length+1) 0) ⟨om,om,by simp,by simp[val]⟩ (.le ?_ ?_ rfl) ?_
 {cbv;exact⟨lR,lR,zR rfl om,lR,lR,zF (by (try dsimp only [zS] at *) <;> (grind [zJ]) <;> omega),lR,trivial⟩}
 ·(cbv;refine⟨zC ?_,trivial⟩;show List.replicate (((lm p).length:Int)+1).toNat _=_;have:(((lm p).length:Int)+1).toNat=p.length+1:=by grind [zJ]);rw[this]
  simp[lm,y7,toD]
 intro s hs;obtain⟨h1,h2,h3,h4⟩:=hs;generalize s.1=i at *;generalize s.2.1=c at *;generalize s.2.2=out at *;cbv;refine zG (λh5=>?_) (λh5=>?_)
 ·cbv;refine xM i (by (grind) <;> (try simp only[zJ] at *) <;> omega) om ?_;cbv;have hpi:=yT (p.getD i 0);have hqi:=yT (q.getD i 0);simp only[B] at hpi hqi;refine gK (σ:=Unit) (λ_=>⟨[(0,nat p),(1,nat q),(5,zT 23 1 (p.length+1)),(6,.int .u64 (λ_=>((c+(p.getD i 0).toNat+(q.getD i 0).toNat:Nat):Int))),(7,iV i),(24,nat p),(25,iV p.length),(26,iV i)],[(23,zW 1 (lm out))]⟩) (λ_=>True) (λh6=>?_) (λh6=>?_) ?_
  ·cbv;refine xM i (by (grind) <;> (try simp only[zJ] at *) <;> omega) om ?_;cbv;refine⟨(),trivial,.le ?_ ?_ rfl⟩
   ·cbv;refine⟨lR,lR,lR,zF ?_,lR,lR,lR,lR,trivial⟩
    (try dsimp only [zS] at *)
    grind [uM]
   {cbv;exact⟨zC rfl,trivial⟩}
  ·cbv;refine⟨(),trivial,.le ?_ ?_ rfl⟩
   ·cbv;refine⟨lR,lR,lR,zF ?_,lR,lR,lR,lR,trivial⟩;have:(q.getD i 0).toNat=0:=by have:q.length<=i:=om;simp_all
    (try dsimp only [zS] at *)
    grind [uM]
   {cbv;exact⟨zC rfl,trivial⟩}
  intro _ _;generalize hd:c+(p.getD i 0).toNat+(q.getD i 0).toNat=d;cbv;refine⟨z9 om om,gI i (by simp) om ?_⟩;cbv;refine⟨uD oM,zE om om,(i+1,d/B,out.set i (UInt32.ofNat d)),⟨om,?_,by grind,?_⟩,om,.le ?_ ?_ rfl⟩;{grind [B]}
  ·(show val ((out.set i (UInt32.ofNat d)).take (i+1))+B^(i+1)*(d/B)=val (p.take (i+1))+val (q.take (i+1));rw[u5 _ om,z7 p,z7 q,xX];have e1:B^i*(d%B)+B^(i+1)*(d/B)=B^i*d:=by rw[uO,gM,<-kP,WU]);grind
  {cbv;refine⟨lR,lR,lR,zF (sN d),lR,lR,zF om,trivial⟩};{cbv;exact⟨zC (fW out (by simp) d),trivial⟩}
 {cbv;refine⟨z9 om om,gI p.length (by simp[zJ]) om ?_⟩;cbv;have hi:i=p.length:=om;subst hi;refine j4 (.trans (.le (ps':=⟨[(60,zT 23 1 (p.length+1))],[(23,zW 1 (lm (out.set p.length (UInt32.ofNat c))))]⟩) ?_ ?_ rfl) (.frz 23 rfl rfl ?_ ?_)) rfl (by refine⟨zU ?_,trivial⟩;grind [zJ]) (aB (out.set p.length (UInt32.ofNat c)) (by grind)) rfl ?_;{cbv;exact okA};{cbv;exact⟨zC (fW out (by simp[zJ]) c),trivial⟩};{cbv;exact⟨z6 (by grind [zJ]),trivial⟩};{exact trivial};cbv;refine jL rfl ?_ rfl;refine zU ?_;congr 2;have e:=u5 out (n:=p.length) oM (UInt32.ofNat c);rw[yU (by grind),xX,kL (show c<B by grind [B]),h4,yU (yQ _),yU hpq] at e;omega}
theorem fT (out:List UInt32){k j:Nat}(hk:k=j){z:Int}{w:Nat}(hz:z=(w:Int))(hw:w<B):(lm out).set k [.int .u32 z]=lm (out.set j (UInt32.ofNat w)):=by subst hk hz;rw[<-CJ,xX,kL hw]
theorem CV (z:Int):ishr .u64 z 63=z/9223372036854775808:=by unfold ishr;simp[IntKind.bits,Aa]
theorem MS (a b:List UInt32)(ha:a.length<2^40)(hb:b.length<2^40):zH 195 [nat a,nat b] (.tup [nat (zL (val a-val b)),iV (if val b<=val a then 0 else 2)]):=by
 refine sF Tryz.f195 ?_;cbv;refine cA (aB a oM) ?_;cbv;refine cA (aB b oM) ?_;cbv;have ha':=xR (z8 a) ha;have hb':=xR (z8 b) hb;refine cA (JV _ _ ha' hb') ?_;cbv;simp only[zQ];refine zG (λh=>?_) (λh=>?_)
 ·(have h':val a<val b:=by grind [Qr,YW]);cbv
  refine jL rfl ?_ rfl;refine⟨xC ?_,zF ?_,trivial⟩;{rw[Nat.sub_eq_zero_of_le oM,yV];rfl};omega
 have hle:val b<=val a:=by grind [YV]
 have hv:val (zL (val a))=val a:=zQ _;have hv2:val (zL (val b))=val b:=zQ _;have hpq:(zL (val b)).length<=(zL (val a)).length:=by rcases uG (zL (val a)).length (zL (val b)).length with h1|h1;{have:=Za h1;omega};omega
 generalize zL (val a)=p at *;generalize zL (val b)=q at *;cbv;refine⟨zV om om,uU om om,?_⟩;cbv;refine zY (σ:=Nat×Nat×List UInt32) (λs=>⟨[(0,nat p),(1,nat q),(6,zT 21 1 p.length),(7,.int .u64 (λ_=>(s.2.1:Int))),(22,nat p),(23,iV p.length),(24,iV s.1)],[(21,zW 1 (lm s.2.2))]⟩)
  (λs=>s.1<=p.length/\s.2.1<2/\s.2.2.length=p.length/\val (s.2.2.take s.1)+val (q.take s.1)=val (p.take s.1)+B^s.1*s.2.1) (λs=>p.length-s.1)
  (0,0,List.replicate p.length 0) ⟨om,om,by simp,by simp[val]⟩ (.le ?_ ?_ rfl) ?_
 {cbv;exact⟨lR,lR,zR rfl om,lR,lR,zF (by (try dsimp only [zS] at *) <;> (grind [zJ]) <;> omega),lR,trivial⟩}
 ·(cbv;refine⟨zC ?_,trivial⟩;show List.replicate (((lm p).length:Int)).toNat _=_;have:(((lm p).length:Int)).toNat=p.length:=by grind [zJ]);rw[this]
  simp[lm,y7,toD]
 intro s hs;obtain⟨h1,h2,h3,h4⟩:=hs;generalize s.1=i at *;generalize s.2.1=c at *;generalize s.2.2=out at *;cbv;refine zG (λh5=>?_) (λh5=>?_)
 ·cbv;refine xM i (by (grind) <;> (try simp only[zJ] at *) <;> omega) om ?_;cbv;have hpi:=yT (p.getD i 0);have hqi:=yT (q.getD i 0);simp only[B] at hpi hqi;refine gK (σ:=Unit) (λ_=>⟨[(0,nat p),(1,nat q),(6,zT 21 1 p.length),(10,.int .u64 (λ_=>nx .u64 (((p.getD i 0).toNat:Int)-(c:Int)-((q.getD i 0).toNat:Int)))),(8,iV i),(22,nat p),(23,iV p.length),(24,iV i)],[(21,zW 1 (lm out))]⟩) (λ_=>True) (λh6=>?_) (λh6=>?_) ?_
  ·cbv;refine xM i (by (grind) <;> (try simp only[zJ] at *) <;> omega) om ?_;cbv;refine⟨(),trivial,.le ?_ ?_ rfl⟩
   ·cbv;refine⟨lR,lR,lR,zF ?_,lR,lR,lR,lR,trivial⟩
    (try dsimp only [zS] at *)
    grind [uM]
   {cbv;exact⟨zC rfl,trivial⟩}
  ·cbv;refine⟨(),trivial,.le ?_ ?_ rfl⟩
   ·cbv;refine⟨lR,lR,lR,zF ?_,lR,lR,lR,lR,trivial⟩;have:(q.getD i 0).toNat=0:=by have:q.length<=i:=om;simp_all
    (try dsimp only [zS] at *)
    grind [uM]
   {cbv;exact⟨zC rfl,trivial⟩}
  intro _ _;obtain⟨w,c',hw,hc',he⟩:∃ w c':Nat,w<B/\c'<2/\(p.getD i 0).toNat+B*c'=w+c+(q.getD i 0).toNat:=by simp only[B];by_cases hlt:(p.getD i 0).toNat<c+(q.getD i 0).toNat;{exact⟨(p.getD i 0).toNat+4294967296-c-(q.getD i 0).toNat,1,by omega,by omega,by omega⟩};{exact⟨(p.getD i 0).toNat-c-(q.getD i 0).toNat,0,by omega,by omega,by omega⟩}
  (have hz:nx .u64 (((p.getD i 0).toNat:Int)-(c:Int)-((q.getD i 0).toNat:Int))=if c'=0 then (w:Int) else (w:Int)+18446744069414584320:=by grind [uM,B]);simp only[hz]
  cbv;refine⟨z9 om om,gI i (by simp) om ?_⟩;cbv;refine⟨uD oM,zE om om,(i+1,c',out.set i (UInt32.ofNat w)),⟨om,hc',by grind,?_⟩,om,.le ?_ ?_ rfl⟩;{show val ((out.set i (UInt32.ofNat w)).take (i+1))+val (q.take (i+1))=val (p.take (i+1))+B^(i+1)*c';rw[u5 _ om,z7 p,z7 q,xX,kL hw];grind};{cbv;refine⟨lR,lR,lR,zF ?_,lR,lR,zF om,trivial⟩;grind [CV,B]};{cbv;refine⟨zC (fT out (by simp) ?_ hw),trivial⟩;grind [gV,B]}
 ·(cbv;have hi:i=p.length:=om;subst hi;refine j4 (.trans (.le (ps':=⟨[(52,zT 21 1 p.length)],[(21,zW 1 (lm out))]⟩) ?_ ?_ rfl) (.frz 21 rfl rfl ?_ ?_)) rfl (by refine⟨zU ?_,trivial⟩;grind [zJ]) (aB out oM) rfl ?_;{cbv;exact okA};{cbv;exact⟨zC rfl,trivial⟩};{cbv;exact⟨z6 (by grind [zJ]),trivial⟩};{exact trivial};cbv;refine jL rfl ?_ rfl;rw[yU oM,yU hpq,yU (yQ _)] at h4;have hlo:=xZ out;have hlq:=xZ q;have hc0:c=0:=by grind);subst hc0;refine⟨zU ?_,zF ?_,trivial⟩
  all_goals grind
theorem x5 {n:Nat}(h:n<18446744073709551616):nx .u64 (n:Int)=(n:Int):=by grind [uM]
theorem Fg (a b:List UInt32)(ha:a.length<2^40)(hb:b.length<2^40):zH 151 [nat a,nat b] (nat (zL (val a*val b))):=by
 refine sF Tryz.f151 ?_;cbv;refine cA (aB a oM) ?_;cbv;refine cA (aB b oM) ?_;cbv;have ha':=xR (z8 a) ha;have hb':=xR (z8 b) hb;have hv:val (zL (val a))=val a:=zQ _;have hv2:val (zL (val b))=val b:=zQ _;generalize zL (val a)=p at *;generalize zL (val b)=q at *
 
 refine zX (λh=>?_) (λh=>?_);{cbv;refine jL rfl ?_ rfl;refine xC ?_;have:p=[]:=gO om;subst this;rw[<-hv];simp[val,yV,lm]};cbv;refine zG (λh'=>?_) (λh'=>?_);{cbv;refine jL rfl ?_ rfl;refine xC ?_;have:q=[]:=gO om;subst this;rw[<-hv2];simp[val,yV,lm]};cbv;refine⟨zE om om,zV om om,uU om om,?_⟩;cbv;refine zY (σ:=Nat×List UInt32) (λs=>⟨[(0,nat p),(1,nat q),(5,zT 28 1 (p.length+q.length)),(29,nat p),(30,iV p.length),(31,iV s.1)],[(28,zW 1 (lm s.2))]⟩)
  (λs=>s.1<=p.length/\s.2.length=p.length+q.length/\val s.2=val (p.take s.1)*val q/\∀ j,s.1+q.length<=j->s.2.getD j 0=0) (λs=>p.length-s.1)
  (0,List.replicate (p.length+q.length) 0) ⟨om,by simp,by simp[val,fL],λj _=>by grind⟩ (.le ?_ ?_ rfl) ?_
 {cbv;exact⟨lR,lR,zR rfl om,lR,zF (by (try dsimp only [zS] at *) <;> (grind [zJ]) <;> omega),lR,trivial⟩}
 ·(cbv;refine⟨zC ?_,trivial⟩;show List.replicate (((lm p).length:Int)+((lm q).length:Int)).toNat _=_;have:(((lm p).length:Int)+((lm q).length:Int)).toNat=p.length+q.length:=by grind [zJ]);rw[this]
  simp[lm,y7,toD]
 intro s hs;obtain⟨h1,h2,h3,h4⟩:=hs;generalize s.1=i at *;generalize s.2=out at *;cbv;refine zG (λh5=>?_) (λh5=>?_)
 ·cbv;refine xM i (by (grind) <;> (try simp only[zJ] at *) <;> omega) om ?_;cbv;have hx:=yT (p.getD i 0);generalize hpx:(p.getD i 0).toNat=x at *;refine zY (σ:=Nat×Nat×List UInt32) (λs=>⟨[(0,nat p),(1,nat q),(5,zT 28 1 (p.length+q.length)),(29,nat p),(30,iV p.length),(31,iV i),(6,iV i),(7,.int .u32 (λ_=>(x:Int))),(8,.int .u64 (λ_=>(s.2.1:Int))),(36,nat q),(37,iV q.length),(38,iV s.1)],[(28,zW 1 (lm s.2.2))]⟩)
   (λs=>s.1<=q.length/\s.2.1<B/\s.2.2.length=p.length+q.length/\val s.2.2+B^(i+s.1)*s.2.1=val (p.take i)*val q+B^i*(x*val (q.take s.1))/\∀ j,i+q.length<=j->s.2.2.getD j 0=0) (λs=>q.length-s.1)
   (0,0,out) ⟨om,vY,h2,by simp[val,h3],h4⟩ (.le ?_ ?_ rfl) ?_
  {cbv;exact⟨lR,lR,lR,lR,lR,lR,lR,lR,lR,lR,zF (by (try dsimp only [zS] at *) <;> (grind [zJ]) <;> omega),lR,trivial⟩};{cbv;exact⟨zC rfl,trivial⟩};intro s hs;obtain⟨g1,g2,g3,g4,g5⟩:=hs;generalize s.1=k at *;generalize s.2.1=c at *;generalize s.2.2=out' at *;cbv;refine zG (λh6=>?_) (λh6=>?_)
  ·(cbv;refine xM k (by (grind) <;> (try simp only[zJ] at *) <;> omega) om ?_;cbv;have hik:0+((i:Int)+(k:Int)).toNat=i+k:=by omega);refine⟨zE om om,z9 om om,gI (i+k) hik om ?_⟩
   (cbv;refine⟨zE om om,z9 om om,gI (i+k) hik om ?_⟩;cbv;have hy:=yT (q.getD k 0);have ho:=yT (out'.getD (i+k) 0);have hset:=s8 out' (j:=i+k) om (UInt32.ofNat (c+(x*(q.getD k 0).toNat+(out'.getD (i+k) 0).toNat)));have htk:=z7 q k;generalize hqy:(q.getD k 0).toNat=y at *;generalize hoo:(out'.getD (i+k) 0).toNat=o at *;have hm:x*y<=4294967295*4294967295:=B9 (by grind [B]) (by grind [B]);have hB:B=4294967296:=rfl;have hT:nx .u64 ((c:Int)+nx .u64 (nx .u64 (nx .u64 (x:Int)*nx .u64 (y:Int))+nx .u64 (o:Int)))=((c+(x*y+o):Nat):Int):=by rw[x5 (n:=x) oM,x5 (n:=y) oM,x5 (n:=o) oM,<-Int.natCast_mul,x5 (n:=x*y) oM,<-Int.natCast_add,x5 (n:=x*y+o) oM,<-Int.natCast_add,x5 oM]);refine⟨uD oM,zE om om,(k+1,(c+(x*y+o))/B,out'.set (i+k) (UInt32.ofNat (c+(x*y+o)))),⟨om,?_,by grind,?_,?_⟩,om,.le ?_ ?_ rfl⟩
   {grind}
   ·show val (out'.set (i+k) (UInt32.ofNat (c+(x*y+o))))+B^(i+(k+1))*((c+(x*y+o))/B)=val (p.take i)*val q+B^i*(x*val (q.take (k+1)));rw[htk];rw[xX] at hset;have e0:∀ t,B^(i+k)*(t%B)+B^(i+(k+1))*(t/B)=B^(i+k)*t:=by
     (intro t;have:i+(k+1)=(i+k)+1:=by omega);rw[this,uO,gM,<-kP,WU]
    grind
   {intro j hj;show (out'.set (i+k) _).getD j 0=0;rw[p9 _ _ _ _ (by exact om)];grind};{cbv;refine⟨lR,lR,lR,lR,lR,lR,lR,lR,zF ?_,lR,lR,zF om,trivial⟩;exact (congrArg (λz=>ishr .u64 z 32) hT).trans (sN _)};{cbv;refine⟨zC ?_,trivial⟩;exact (congrArg (λz=>(lm out').set (0+((i:Int)+(k:Int)).toNat) [.int .u32 (nx .u32 z)]) hT).trans (fW out' hik _)}
  ·(cbv;have hkq:k=q.length:=om;subst hkq;have hlq:0+((i:Int)+((lm q).length:Int)).toNat=i+q.length:=by grind [zJ]);refine⟨zE om om,z9 om om,gI (i+q.length) hlq om ?_⟩
   cbv;refine⟨zE om om,(i+1,out'.set (i+q.length) (UInt32.ofNat c)),⟨om,by grind,?_,?_⟩,om,.le ?_ ?_ rfl⟩;{show val (out'.set (i+q.length) (UInt32.ofNat c))=val (p.take (i+1))*val q;have hset:=s8 out' (j:=i+q.length) om (UInt32.ofNat c);rw[g5 _ (yQ _),xX,kL g2] at hset;rw[yU (yQ _)] at g4;rw[z7 p,hpx,jK,gM];grind};{grind [p9]};{cbv;exact⟨lR,lR,lR,lR,lR,zF om,trivial⟩};{cbv;exact⟨zC (fW out' hlq c),trivial⟩}
 {cbv;have hip:i=p.length:=om;subst hip;refine j4 (.trans (.le (ps':=⟨[(77,zT 28 1 (p.length+q.length))],[(28,zW 1 (lm out))]⟩) ?_ ?_ rfl) (.frz 28 rfl rfl ?_ ?_)) rfl (by refine⟨zU ?_,trivial⟩;grind [zJ]) (aB out oM) rfl ?_;{cbv;exact okA};{cbv;exact⟨zC rfl,trivial⟩};{cbv;exact⟨z6 (by grind [zJ]),trivial⟩};{exact trivial};cbv;refine jL rfl ?_ rfl;rw[yU (yQ _)] at h3;refine zU ?_;grind}
end Go.Proofs.YtboocdbmnfjomaaGreat
namespace Go.Proofs.YtboocdbmnfjomaaGreat
def pad (n m:Nat):List UInt32:=zL n++List.replicate (m-(zL n).length) 0
theorem J5 {l:List UInt32}{n m:Nat}(hl:l.length=m)(hv:val l=n):l=pad n m:=by
 have h1:(zL n).length<=m:=by rw[<-hv,<-hl];exact z8 l
 refine Yz ?_ ?_
 all_goals grind [pad,vJ,fL,zQ]
theorem sJ {n m:Nat}(h:n<B^m):(pad n m).length=m:=by have:=yL h;grind [pad]
theorem eH (n m:Nat):val (pad n m)=n:=by grind [pad,vJ,fL,zQ]
theorem Db {l:List UInt32}{n:Nat}(hl:l.length=n+2):val l=val (l.take n)+B^n*((l.getD (n+1) 0).toNat*B+(l.getD n 0).toNat):=by have h1:=z7 l n;have h2:=z7 l (n+1);rw[List.take_of_length_le (by omega)] at h2;rw[h2,h1,Nat.pow_succ,Nat.mul_add,Nat.mul_assoc,Nat.mul_comm B];omega
theorem Da {l:List UInt32}{n:Nat}(hl:l.length=n+3):val l=val (l.take n)+B^n*(((l.getD (n+2) 0).toNat*B+(l.getD (n+1) 0).toNat)*B+(l.getD n 0).toNat):=by
 have h1:=z7 l n;have h2:=z7 l (n+1);have h3:=z7 l (n+2);rw[List.take_of_length_le (by omega)] at h3;rw[h3,h2,h1];have e:B^(n+2)=B^n*(B*B):=by grind
 rw[e,Nat.pow_succ,Nat.mul_add,Nat.add_mul,Nat.mul_add,Nat.mul_assoc,Nat.mul_assoc];grind
structure EstInv (U V P top v1 v2 u2:Nat) (q r:Nat):Prop where
 top:q*v1+r=top
 lo:U<(q+1)*V
theorem By {U V P top v1 v2 u2 ur vr:Nat}(hv1:0<v1)(hU:U=ur+P*(top*B+u2))(hV:V=vr+P*(v1*B+v2))(hur:ur<P)(hu2:u2<B):EstInv U V P top v1 v2 u2 (top/v1) (top%v1):=by
 refine⟨by rw[Nat.mul_comm];exact Nat.div_add_mod top v1,?_⟩;have h1:top+1<=(top/v1+1)*v1:=by have:=Nat.div_add_mod top v1;have:=Nat.mod_lt top hv1;grind
 have h2:(top+1)*B<=(top/v1+1)*(v1*B+v2):=by rw[Nat.mul_add,<-Nat.mul_assoc];exact Nat.le_trans (Nat.mul_le_mul_right B h1) (Nat.le_add_right _ _)
 have h3:top*B+u2+1<=(top+1)*B:=by grind
 have h4:=Nat.mul_le_mul_left P (Nat.le_trans h3 h2);have h5:(top/v1+1)*V=(top/v1+1)*vr+P*((top/v1+1)*(v1*B+v2)):=by grind
 have h6:P*(top*B+u2+1)=P*(top*B+u2)+P:=by grind
 omega
theorem Bx {U V P top v1 v2 u2 ur vr q r:Nat}(hU:U=ur+P*(top*B+u2))(hV:V=vr+P*(v1*B+v2))(hur:ur<P) (ht:q*v1+r=top) (h:r*B+u2<q*v2):U<q*V:=by
 have h1:top*B+u2+1<=q*(v1*B+v2):=by rw[<-ht,Nat.mul_add,Nat.add_mul,Nat.mul_assoc];omega
 have h2:=Nat.mul_le_mul_left P h1;have h3:q*V=q*vr+P*(q*(v1*B+v2)):=by grind
 have h4:P*(top*B+u2+1)=P*(top*B+u2)+P:=by grind
 omega
theorem Bw {U V P top v1 v2 u2 q r:Nat}(hq:0<q)(ht:q*v1+r=top)(h:U<q*V):EstInv U V P top v1 v2 u2 (q-1) (r+v1):=by obtain⟨k,rfl⟩:∃ k,q=k+1:=⟨q-1,by omega⟩;refine⟨?_,by grind⟩;grind
theorem Ub {U V P top v1 v2 u2 ur vr q r:Nat}(hv1:0<v1)(hU:U=ur+P*(top*B+u2))(hV:V=vr+P*(v1*B+v2))(hvr:vr<P) (ht:q*v1+r=top) (hq:q<=B) (h:q*v2<=r*B+u2):q*V<=U+V:=by
 have h1:q*(v1*B+v2)<=top*B+u2:=by rw[<-ht,Nat.mul_add,Nat.add_mul,Nat.mul_assoc];omega
 have h2:=Nat.mul_le_mul_left P h1;have h3:q*V=q*vr+P*(q*(v1*B+v2)):=by grind
 have h4:q*vr<=B*P:=Nat.mul_le_mul hq (Nat.le_of_lt hvr);have h5:B*P<=P*(v1*B+v2):=by rw[Nat.mul_comm B P];refine Nat.mul_le_mul_left P (Nat.le_trans (?_:B<=v1*B) (Nat.le_add_right _ _));exact Nat.le_mul_of_pos_left B hv1
 omega
def lH (v1 v2 u2 q r:Nat):Nat :=
 if h:B<=r\/v1=0 then q
 else if B<=q\/r*B+u2<q*v2 then (if B<=r+v1 then q-1 else lH v1 v2 u2 (q-1) (r+v1)) else q
termination_by B-r
decreasing_by omega
structure Est (U V q:Nat):Prop where
 b:q<B
 lo:U<(q+1)*V
 hi:q*V<=U+V
theorem K5 {U V P top v1 v2 u2 ur vr:Nat}(hv1:0<v1)(hv2:v2<B)(hu2:u2<B)(hU:U=ur+P*(top*B+u2))(hV:V=vr+P*(v1*B+v2))(hur:ur<P)(hvr:vr<P)(hlt:U<B*V)(htop:top<v1*B+B):∀ n q r,B-r<=n->EstInv U V P top v1 v2 u2 q r->r<B->q<=B+1->Est U V (lH v1 v2 u2 q r)
 |0,q,r,hn,hi,hr,hq=>by omega| n+1,q,r,hn,hi,hr,hq=>by
  rw[lH];rw[dif_neg (by omega)];by_cases hc:B<=q\/r*B+u2<q*v2
  ·(rw[if_pos hc];have hq0:0<q:=by grind);have hover:U<q*V:=by rcases hc with h|h;{exact Nat.lt_of_lt_of_le hlt (Nat.mul_le_mul_right V h)};{exact Bx hU hV hur hi.top h}
   have hst:=Bw (P:=P) (v2:=v2) (u2:=u2) hq0 hi.top hover;by_cases h2:B<=r+v1
   ·(rw[if_pos h2];have hqB:q-1<B:=by rcases Nat.lt_or_ge (q-1) B with h|h;{exact h};{have h3:=hst.top;have h4:=Nat.mul_le_mul_right v1 h;rw[Nat.mul_comm B v1] at h4;omega});refine⟨hqB,hst.lo,Ub (r:=r+v1) (v2:=v2) (u2:=u2) hv1 hU hV hvr hst.top (Nat.le_of_lt hqB) ?_⟩;have h5:(q-1)*v2<=B*B:=Nat.mul_le_mul (Nat.le_of_lt hqB) (Nat.le_of_lt hv2);grind [B]
   {rw[if_neg h2];exact K5 hv1 hv2 hu2 hU hV hur hvr hlt htop n _ _ (by omega) hst (by omega) (by omega)}
  ·(rw[if_neg hc];have h1:q<B:=by omega);exact⟨h1,hi.lo,Ub hv1 hU hV hvr hi.top (Nat.le_of_lt h1) (by omega)⟩
def Ym (U V q:Nat):Nat:=if q*V<=U then q else q-1
theorem BK {U V q:Nat}(hV:0<V)(h:Est U V q):Ym U V q=U/V:=by
 unfold Ym;split;{rename_i h1;exact (Nat.div_eq_of_lt_le h1 h.lo).symm}
 ·(rename_i h1;have h1:U<q*V:=by omega);have hq:q≠0:=λe=>by grind
  obtain⟨k,rfl⟩:∃ k,q=k+1:=⟨q-1,by omega⟩;have h2:=h.hi;rw[Nat.add_mul,Nat.one_mul] at h2;grind [Nat.div_eq_of_lt_le]
theorem eJ {l:List UInt32}(n:Nat)(h:n<=l.length):val l=val (l.take n)+B^n*val (l.drop n):=by
 have e:(l.take n).length=n:=by grind
 calc val l=val (l.take n++l.drop n):=by simp_all
  _=_:=by rw[vJ,e]
theorem jD {l:List UInt32}{i:Nat}(h:i<l.length):val (l.drop i)=(l.getD i 0).toNat+B*val (l.drop (i+1)):=by
 have:l.drop i=l.getD i 0::l.drop (i+1):=by simp_all
 rw[this];rfl
theorem Y1 {l:List UInt32}(n:Nat)(hn:n<=l.length)(h:val l<B^n):val (l.drop n)=0:=by have h1:=eJ n hn;rcases Nat.eq_zero_or_pos (val (l.drop n)) with h2|h2;{exact h2};{have:=Nat.mul_le_mul_left (B^n) h2;omega}
theorem FQ {pre x post:List UInt32}{V n q:Nat}(hx:x.length=n+1)(hpost:val post=0)(hV:val x<V*B)(hVn:V<B^n)(h0:0<V)(hq:q=val x/V):q<B/\val (pad (val x-q*V) (n+1)++post)<V /\ val (pre++(pad (val x-q*V) (n+1)++post))+V*(B^pre.length*q)=val (pre++(x++post)):=by
 have hmod:val x-q*V=val x%V:=by grind [Nat.div_add_mod]
 have hlt:=Nat.mod_lt (val x) h0;refine⟨by rw[hq,Nat.div_lt_iff_lt_mul h0,Nat.mul_comm];exact hV,?_,?_⟩;{grind [vJ,eH]};{rw[vJ,vJ,vJ,vJ,eH,hpost,hmod];simp only[Nat.mul_zero,Nat.add_zero];grind [Nat.div_add_mod]}
end Go.Proofs.YtboocdbmnfjomaaGreat
