/- A part of the proof: PnA, NtA, NtB, NtC, NtD, PnB. -/
import Derived.Test.YtfainocfaddbdaaGreatU14
set_option linter.all false
namespace Go.Proofs.YtfainocfaddbdaaGreat
def B:Nat:=4294967296
theorem wI:0<B:=by decide
theorem yL (x:UInt32):x.toNat<B:=x.toNat_lt
def val:List UInt32->Nat
 |[]=>0| x::r=>x.toNat+B*val r
def zF (n:Nat):List UInt32 :=
 if h:n=0 then [] else UInt32.ofNat (n%B)::zF (n/B)
termination_by n
decreasing_by exact Nat.div_lt_self (by omega) (by decide)
theorem limbs_zero:zF 0=[]:=by rw[zF];simp
theorem dX {n:Nat}(h:n≠0):zF n=UInt32.ofNat (n%B)::zF (n/B):=by rw[zF];simp[h]
theorem dW (n:Nat):(UInt32.ofNat (n%B)).toNat=n%B:=by rw[UInt32.toNat_ofNat'];exact Nat.mod_eq_of_lt (Nat.mod_lt _ wI)
theorem zM (n:Nat):val (zF n)=n:=by
 induction n using Nat.strongRecOn with
 |_ n ih =>
  by_cases h:n=0;{subst h;rw[limbs_zero];rfl};{rw[dX h,val,dW,ih (n/B) (Nat.div_lt_self (by omega) (by decide))];exact Nat.mod_add_div n B}
theorem vQ:∀ (a b:List UInt32),val (a++b)=val a+B^a.length*val b
 |[],b=>by simp[val]| x::a,b=>by simp only[List.cons_append,val,List.length_cons,vQ a b];rw[Nat.mul_add,Nat.pow_succ,<-Nat.mul_assoc,Nat.mul_comm B (B^a.length)];omega
theorem xZ:∀ (l:List UInt32),val l<B^l.length
 |[]=>by simp[val]| x::r=>by have h1:=xZ r;have h2:=yL x;have h3:B*(val r+1)<=B*B^r.length:=Nat.mul_le_mul_left _ h1;simp only[val,List.length_cons,Nat.pow_succ];rw[Nat.mul_comm (B^r.length) B];rw[Nat.mul_add] at h3;omega
def cO:List UInt32->Bool
 |[]=>true| [x]=>x != 0| _::y::r=>cO (y::r)
theorem zCL (x:UInt32){r:List UInt32}(h:r≠[]):cO (x::r)=cO r:=by
 cases r with
 |nil=>exact absurd rfl h| cons y r=>rfl
theorem zG3:∀ {l:List UInt32},cO l=true->l≠[]->0<val l
 |[],_,h=>absurd rfl h| [x],h,_=>by
  (have h1:x≠0:=by simpa[cO] using h);have:x.toNat≠0:=fun e=>h1 (UInt32.toNat_inj.1 e)
  simp only[val];omega
 |x::y::r,h,_=>by have h1:=zG3 (l:=y::r) h (by simp);have:B*1<=B*val (y::r):=Nat.mul_le_mul_left _ h1;have h2:(0:Nat)<B:=wI;show 0<x.toNat+B*val (y::r);omega
theorem nK:∀ {l:List UInt32},cO l=true->zF (val l)=l
 |[],_=>by simp[val,limbs_zero]| x::r,h=>by
  (have hp:=zG3 h (by simp);rw[dX (by omega)];have hx:=yL x;have h1:val (x::r)%B=x.toNat:=by simp only[val];rw[Nat.add_mul_mod_self_left,Nat.mod_eq_of_lt hx]);have h2:val (x::r)/B=val r:=by simp only[val];rw[Nat.add_mul_div_left _ _ wI,Nat.div_eq_of_lt hx];omega
  rw[h1,h2];have hr:cO r=true:=by
   cases r with
   |nil=>rfl| cons y r=>exact h
  rw[nK hr];congr 1;exact UInt32.toNat_inj.1 (by rw[UInt32.toNat_ofNat'];exact Nat.mod_eq_of_lt hx)
theorem sI (n:Nat):cO (zF n)=true:=by
 induction n using Nat.strongRecOn with
 |_ n ih =>
  by_cases h:n=0;{subst h;rw[limbs_zero];rfl}
  ·rw[dX h];by_cases h2:n/B=0
   ·(rw[h2,limbs_zero];have hlt:n<B:=(Nat.div_eq_zero_iff_lt wI).1 h2;have:(UInt32.ofNat (n%B)).toNat≠0:=by rw[dW,Nat.mod_eq_of_lt hlt];exact h);simp only[cO,bne_iff_ne,ne_eq]
    exact fun e=>this (by rw[e];rfl)
   {rw[zCL _ (by rw[dX h2];simp)];exact ih _ (Nat.div_lt_self (by omega) (by decide))}
theorem iF (l:List UInt32)(x:UInt32):cO (l++[x])=(x != 0):=by
 induction l with
 |nil=>rfl| cons y l ih=>rw[List.cons_append,zCL _ (by simp),ih]
theorem zFL (l:List UInt32):val (l++[0])=val l:=by rw[vQ];simp[val]
theorem zCN:∀ {a b:List UInt32},a.length=b.length->val a=val b->a=b
 |[],[],_,_=>rfl| x::a,y::b,hl,hv=>by
  (simp only[val] at hv;have hx:=yL x;have hy:=yL y;have h1:x.toNat=y.toNat:=by have:=congrArg (· % B) hv;simp only[Nat.add_mul_mod_self_left,Nat.mod_eq_of_lt hx,Nat.mod_eq_of_lt hy] at this;exact this);have h2:val a=val b:=by rw[h1] at hv;exact Nat.eq_of_mul_eq_mul_left wI (Nat.add_left_cancel hv)
  rw[UInt32.toNat_inj.1 h1,zCN (by simpa using hl) h2]
 |[],y::b,hl,_=>by simp at hl| x::a,[],hl,_=>by simp at hl
theorem z7 {n k:Nat}(h:n<B^k):(zF n).length<=k:=by
 induction k generalizing n with
 |zero =>
  (have:n=0:=by simpa using h);subst this
  rw[limbs_zero];simp
 |succ k ih =>
  by_cases h0:n=0;{subst h0;rw[limbs_zero];simp}
  ·(rw[dX h0,List.length_cons];have:n/B<B^k:=by rw[Nat.div_lt_iff_lt_mul wI];rw[Nat.pow_succ] at h;exact h);have:=ih this;omega
theorem zS (l:List UInt32):(zF (val l)).length<=l.length:=z7 (xZ l)
theorem zBC {n k:Nat}(h:B^k<=n):k<(zF n).length:=by rcases Nat.lt_or_ge k (zF n).length with h'|h';{exact h'};{have h1:=xZ (zF n);rw[zM] at h1;have:B^(zF n).length<=B^k:=Nat.pow_le_pow_right wI h';omega}
theorem xX {n:Nat}:zF n=[]↔n=0:=by constructor;{intro h;have:=zM n;rw[h] at this;exact this.symm};{intro h;subst h;exact limbs_zero}
theorem dQ (l:List UInt32){n:Nat}(h:n<l.length):l.take (n+1)=l.take n++[l.getD n 0]:=by rw[List.take_add_one];simp[h]
theorem mX (l:List UInt32){m:Nat}(h:m<l.length):val l=val (l.take m)+B^m*((l.getD m 0).toNat+B*val (l.drop (m+1))):=by
 have e:l=l.take m++(l.getD m 0::l.drop (m+1)):=by
  (have:l.drop m=l.getD m 0::l.drop (m+1):=by rw[List.drop_eq_getElem_cons h];simp[h]);rw[<-this,List.take_append_drop]
 have hl:(l.take m).length=m:=by simp;omega
 calc val l=val (l.take m++(l.getD m 0::l.drop (m+1))):=by rw[<-e]
  _=_:=by rw[vQ,hl];rfl
theorem w5 (l:List UInt32)(m:Nat):val (l.take m)<B^m:=by
 have h1:=xZ (l.take m);have h2:(l.take m).length<=m:=by simp;omega
 exact Nat.lt_of_lt_of_le h1 (Nat.pow_le_pow_right wI h2)
theorem zTV {a b:List UInt32}{m:Nat}(ha:m<a.length)(hb:m<b.length)(hd:a.drop (m+1)=b.drop (m+1))(h:(a.getD m 0).toNat<(b.getD m 0).toNat):val a<val b:=by
 rw[mX a ha,mX b hb,hd];have h1:=w5 a m;have h2:(a.getD m 0).toNat+1+B*val (b.drop (m+1))<=(b.getD m 0).toNat+B*val (b.drop (m+1)):=by omega
 have h3:=Nat.mul_le_mul_left (B^m) h2;have h4:B^m*((a.getD m 0).toNat+1+B*val (b.drop (m+1)))=B^m*((a.getD m 0).toNat+B*val (b.drop (m+1)))+B^m:=by rw[Nat.add_right_comm,Nat.mul_add (B^m) _ 1,Nat.mul_one]
 omega
theorem oP {n m:Nat}(h:(zF n).length<(zF m).length):n<m:=by have h1:=xZ (zF n);rw[zM] at h1;rcases Nat.lt_or_ge n m with h'|h';{exact h'};{have h2:=z7 (Nat.lt_of_le_of_lt h' h1);omega}
def qH (a b:Nat):Int:=if a<b then -1 else if b<a then 1 else 0
theorem zC5 {a b:Nat}(h:a<b):qH a b=-1:=by simp[qH,h]
theorem zC6 {a b:Nat}(h:b<a):qH a b=1:=by simp[qH,h,Nat.not_lt.2 (Nat.le_of_lt h)]
theorem zHX (a:Nat):qH a a=0:=by simp[qH]
theorem zI2 (l:List UInt32)(x:UInt32):val (l++[x])=val l+B^l.length*x.toNat:=by rw[vQ];simp[val]
theorem n6 (l:List UInt32){n:Nat}(h:n<l.length):val (l.take (n+1))=val (l.take n)+B^n*(l.getD n 0).toNat:=by rw[dQ l h,zI2];congr 3;simp;omega
theorem zR (l:List UInt32)(n:Nat):val (l.take (n+1))=val (l.take n)+B^n*(l.getD n 0).toNat:=by rcases Nat.lt_or_ge n l.length with h|h;{exact n6 l h};{rw[List.take_of_length_le (by omega),List.take_of_length_le h];simp[List.getElem?_eq_none h]}
theorem uT (l:List UInt32){n:Nat}(h:n<l.length)(x:UInt32):val ((l.set n x).take (n+1))=val (l.take n)+B^n*x.toNat:=by rw[n6 _ (by simpa using h)];congr 2;{rw[List.take_set_of_le (Nat.le_refl _)]};{simp[h]}
theorem x8 (n:Nat):(UInt32.ofNat n).toNat=n%B:=by rw[UInt32.toNat_ofNat'];rfl
theorem a6 (l:List UInt32){j:Nat}(h:j<l.length)(x:UInt32):val (l.set j x)+B^j*(l.getD j 0).toNat=val l+B^j*x.toNat:=by
 have hs:j<(l.set j x).length:=by simpa using h
 rw[mX l h,mX (l.set j x) hs];have e1:(l.set j x).take j=l.take j:=List.take_set_of_le (Nat.le_refl _);have e2:(l.set j x).drop (j+1)=l.drop (j+1):=by rw[List.drop_set_of_lt (by omega)]
 have e3:(l.set j x).getD j 0=x:=by simp[h]
 rw[e1,e2,e3,Nat.mul_add,Nat.mul_add];omega
theorem fG (n:Nat):val (List.replicate n 0)=0:=by
 induction n with
 |zero=>rfl| succ n ih=>simp[List.replicate_succ,val,ih]
theorem aJ (l:List UInt32)(j k:Nat)(x:UInt32)(h:j≠k):(l.set j x).getD k 0=l.getD k 0:=by simp[List.getElem?_set_ne h]
end Go.Proofs.YtfainocfaddbdaaGreat
namespace Go.Proofs.YtfainocfaddbdaaGreat
open Go
set_option maxRecDepth 100000
theorem cH (l:List UInt32)(hl:l.length<2^44):zG 160 [nat l] (nat (zF (val l))):=by
 refine sF Tryz.f160 ?_;cbv;refine zX (σ:=Nat) (fun n=>⟨[(0,nat l),(2,.nil),(3,.int .i64 (fun _=>(n:Int)))],[]⟩) (fun n=>n<=l.length/\val (l.take n)=val l) (fun n=>n) l.length ⟨zV _,by simp⟩ (.le ?_ trivial rfl) ?_;{cbv;exact⟨lR,lR,zE (by simp[zH]),trivial⟩};intro n hn;cbv;refine yD (fun h=>?_) (fun h=>?_)
 ·(try dsimp only [zI] at *)
  obtain⟨m,rfl⟩:∃ m,n=m+1:=⟨n-1,by omega⟩;cbv;refine⟨zC om om,xO m om om ?_⟩;cbv;refine zD (fun h2=>?_) (fun h2=>?_)
  ·cbv;refine⟨zC om om,m,⟨om,?_⟩,om,.le ?_ trivial rfl⟩
   ·(have e:l.getD m 0=0:=by have:(l.getD m 0).toNat=0:=om;exact s9.1 this);rw[<-hn.2,dQ l oM,e,zFL]
   {cbv;exact⟨lR,lR,zE om,trivial⟩}
  ·(cbv;refine zD (fun h3=>om) (fun h3=>?_);cbv;refine⟨m5 om om om,l5 l,?_⟩;cbv;refine jB rfl ?_ rfl;refine zY ?_;have e:l.getD m 0≠0:=fun e=>by (try dsimp only [zI] at *);rw[e] at h2;exact h2 rfl);simp only[zOA,zOB]
   rw[<-hn.2,nK (by rw[dQ l oM,iF];simpa using e)];rfl
 {cbv;refine zD (fun h3=>?_) (fun h3=>om);cbv;refine jB rfl ?_ rfl;refine xB ?_;have:n=0:=om;subst this;rw[<-hn.2];simp[val,limbs_zero,lm]}
theorem ty34:ty 25=.sli 1 4 [.int .u32 (fun _=>0)]:=by cbv
theorem s230 (l:List UInt32)(hl:l.length<2^40):zG 168 [nat l] (nat l):=by refine sF Tryz.f168 ?_;cbv;refine⟨fun b hb=>?_⟩;cbv;refine z6 (fun h=>?_) (fun h=>?_);{cbv;refine jB rfl ?_ rfl;exact xB (hb h)};{cbv;refine vW ty34 rfl rfl rfl rfl rfl (l5 l) (yB om (by simp only[f9];(try dsimp only [zI] at *) <;> (try simp only[zH] at *) <;> omega)) rfl ?_;cbv;refine retW (.frz 7 rfl rfl ?_ ?_) rfl ?_ rfl;{cbv;exact⟨yG (by simp),yG (by simp),trivial⟩};{exact trivial};{refine zY ?_;simp}}
theorem s223 (l:List UInt32)(hl:l.length<2^40):zG 162 [nat l] (nat (zF (val l))):=by refine sF Tryz.f162 ?_;cbv;refine cA (cH l oM) ?_;cbv;refine cA (s230 _ (xJ (zS l) hl)) ?_;cbv;refine jB rfl ?_ rfl;exact lR
theorem pW {l:List UInt32}(h:l≠[]):cO l=(l.getD (l.length-1) 0 != 0):=by
 have:l=l.dropLast++[l.getD (l.length-1) 0]:=by rw[yC,<-List.getLast?_eq_getElem?,List.getLast?_eq_some_getLast h];exact (List.dropLast_concat_getLast h).symm
 rw[this,iF];simp
theorem zUN (x:UInt32):(x != 0)=!decide ((x.toNat:Int)=0):=by rw[aZ];simp only[bne_iff_ne,ne_eq,zLH,decide_eq_false_iff_not];constructor;{intro h e;exact h (s9.1 (by simpa using e))};{intro h e;exact h (by rw[e];rfl)}
theorem s160 (l:List UInt32)(hl:l.length<2^40):zG 154 [nat l] (.bool (fun _=>cO l)):=by
 refine sF Tryz.f154 ?_;cbv;refine yD (fun h=>?_) (fun h=>?_);{cbv;refine jB rfl ?_ rfl;refine xQ ?_;have:l=[]:=jS om;subst this;rfl}
 ·(cbv;refine⟨zC om om,xO (l.length-1) om om ?_⟩;cbv;refine jB rfl ?_ rfl;refine jZ ?_;have hne:l≠[]:=fun e=>by subst e;exact h rfl);rw[pW hne]
  exact zUN _
theorem s211 (x:Nat)(hx:x<B*B):zG 142 [.int .u64 (fun _=>(x:Int))] (nat (zF x)):=by
 refine sF Tryz.f142 ?_;cbv;refine⟨v9 oM,?_⟩;refine wL rfl (by
  (refine⟨zY ?_,trivial⟩;have h1:ishr .u64 (x:Int) 32=((x/B:Nat):Int):=by unfold ishr;simp[IntKind.bits,B,zFJ]);have h2:x/B<B:=zI1 hx;simp only[yI,x6,toD,lm,uC,mU,zI,h1,gW,dW];rw[UInt32.toNat_ofNat',wO (show x/B<2^32 from h2)];simp only[B] at *
  congr 3
  ·congr 1;omega) (cH [UInt32.ofNat (x%B),UInt32.ofNat (x/B)] (by simp)) rfl ?_
 cbv;refine jB rfl ?_ rfl;refine zY ?_;have h2:x/B<B:=zI1 hx;have:val [UInt32.ofNat (x%B),UInt32.ofNat (x/B)]=x:=by simp only[val,dW];rw[UInt32.toNat_ofNat',wO (show x/B<2^32 from h2),zBY,gM];exact d6 x B
 rw[this]
theorem s162 (a b:List UInt32)(ha:a.length<2^40)(hb:b.length<2^40):zG 156 [nat a,nat b] (.int .i64 (fun _=>qH (val a) (val b))):=by
 refine sF Tryz.f156 ?_;cbv;refine cA (cH a oM) ?_;cbv;refine cA (cH b oM) ?_;cbv;have ha':=xJ (zS a) ha;have hb':=xJ (zS b) hb;refine zD (fun h=>?_) (fun h=>?_)
 ·cbv;have hl:(zF (val a)).length=(zF (val b)).length:=om;refine⟨zC om om,?_⟩;refine zX (σ:=Nat) (fun n=>⟨[(0,nat (zF (val a))),(1,nat (zF (val b))),(5,.int .i64 (fun _=>(n:Int)-1))],[]⟩) (fun n=>n<=(zF (val a)).length/\(zF (val a)).drop n=(zF (val b)).drop n) (fun n=>n) (zF (val a)).length ⟨zV _,by simp[hl]⟩ (.le ?_ trivial rfl) ?_;{cbv;exact⟨lR,lR,zE om,trivial⟩};intro n hn;cbv;refine zD (fun h2=>?_) (fun h2=>?_)
  ·(try dsimp only [zI] at *)
   obtain⟨m,rfl⟩:∃ m,n=m+1:=⟨n-1,by omega⟩;cbv;refine zT 9 (by cbv) ?_;cbv;refine xO m om om ?_;cbv;refine xO m om om ?_;cbv;refine zD (fun h3=>?_) (fun h3=>?_)
   ·cbv;refine⟨zC om om,m,⟨om,?_⟩,om,.le ?_ trivial rfl⟩
    ·(try dsimp only [zI] at *)
     have e:(zF (val a)).getD m 0=(zF (val b)).getD m 0:=s9.1 oM;rw[c7 (by omega:m<(zF (val a)).length),c7 (by omega:m<(zF (val b)).length),hn.2];congr 1;simpa[show m<(zF (val a)).length by omega,show m<(zF (val b)).length by omega] using e
    {cbv;exact⟨lR,lR,zE om,trivial⟩}
   {cbv;refine zT 9 (by cbv) ?_;cbv;refine xO m om om ?_;cbv;refine xO m om om ?_;cbv;refine zD (fun h4=>?_) (fun h4=>?_);{cbv;refine jB rfl ?_ rfl;refine zE ?_;have:=zTV (a:=zF (val a)) (b:=zF (val b)) (m:=m) om om hn.2 om;rw[zM,zM] at this;rw[zC5 this]};{cbv;refine jB rfl ?_ rfl;refine zE ?_;have:=zTV (a:=zF (val b)) (b:=zF (val a)) (m:=m) om om hn.2.symm om;rw[zM,zM] at this;rw[zC6 this]}}
  ·(cbv;refine jB rfl ?_ rfl;refine zE ?_;have h0:n=0:=om;subst h0;have e:zF (val a)=zF (val b):=by simpa using hn.2);have:val a=val b:=by rw[<-zM (val a),e,zM]
   rw[this,zHX]
 {cbv;refine zD (fun h2=>?_) (fun h2=>?_);{cbv;refine jB rfl ?_ rfl;refine zE ?_;rw[zC5 (oP om)]};{cbv;refine jB rfl ?_ rfl;refine zE ?_;rw[zC6 (oP om)]}}
theorem zTJ (l:List UInt32)(i:Nat)(x:UInt32):(lm l).set i [.int .u32 x.toNat]=lm (l.set i x):=by simp[lm,List.map_set]
theorem aH (n:Nat):ishr .u64 (n:Int) 32=((n/B:Nat):Int):=by unfold ishr;simp[IntKind.bits,B,zFJ]
theorem fL (out:List UInt32){k j:Nat}(hk:k=j)(d:Nat):(lm out).set k [.int .u32 (nx .u32 ((d:Nat):Int))]=lm (out.set j (UInt32.ofNat d)):=by subst hk;rw[<-zTJ,x8,gW];simp[B]
theorem s221 (a b:List UInt32)(ha:a.length<2^40)(hb:b.length<2^40):zG 176 [nat a,nat b] (nat (zF (val a+val b))):=by
 refine sF Tryz.f176 ?_;cbv;refine cA (cH a oM) ?_;cbv;refine cA (cH b oM) ?_;cbv;have ha':=xJ (zS a) ha;have hb':=xJ (zS b) hb;refine gI (σ:=List UInt32×List UInt32) (fun s=>⟨[(0,nat s.1),(1,nat s.2),(4,.nil)],[]⟩) (fun s=>s.2.length<=s.1.length/\s.1.length<2^40/\val s.1+val s.2=val a+val b) (fun h=>?_) (fun h=>?_) ?_;{cbv;refine⟨(zF (val b),zF (val a)),⟨om,hb',by simp only[zM];omega⟩,.le ?_ trivial rfl⟩;cbv;exact okA};{cbv;refine⟨(zF (val a),zF (val b)),⟨om,ha',by simp only[zM]⟩,.le ?_ trivial rfl⟩;cbv;exact okA};intro s hs;obtain⟨hpq,hp,hv⟩:=hs;generalize s.1=p at *
 generalize s.2=q at *
 cbv;refine⟨zC om om,yB om om,vF om om,?_⟩;cbv;refine zX (σ:=Nat×Nat×List UInt32) (fun s=>⟨[(0,nat p),(1,nat q),(5,.osl 23 1 (fun _=>0) (fun _=>p.length+1)),(6,.int .u64 (fun _=>(s.2.1:Int))),(24,nat p),(25,.int .i64 (fun _=>(p.length:Int))),(26,.int .i64 (fun _=>(s.1:Int)))],[(23,.arr 1 (fun _=>lm s.2.2))]⟩)
  (fun s=>s.1<=p.length/\s.2.1<2/\s.2.2.length=p.length+1/\val (s.2.2.take s.1)+B^s.1*s.2.1=val (p.take s.1)+val (q.take s.1)) (fun s=>p.length-s.1)
  (0,0,List.replicate (p.length+1) 0) ⟨om,om,by simp,by simp[val]⟩ (.le ?_ ?_ rfl) ?_
 {cbv;exact⟨lR,lR,zU rfl om,lR,lR,zE om,lR,trivial⟩}
 ·(cbv;refine⟨zB ?_,trivial⟩;show List.replicate (((lm p).length:Int)+1).toNat _=_;have:(((lm p).length:Int)+1).toNat=p.length+1:=by rw[zH];omega);rw[this]
  simp[lm,x6,toD]
 intro s hs;obtain⟨h1,h2,h3,h4⟩:=hs;generalize s.1=i at *
 generalize s.2.1=c at *
 generalize s.2.2=out at *
 cbv;refine zD (fun h5=>?_) (fun h5=>?_)
 ·cbv;refine xO i om om ?_;cbv;have hpi:=yL (p.getD i 0);have hqi:=yL (q.getD i 0);simp only[B] at hpi hqi;refine gI (σ:=Unit) (fun _=>⟨[(0,nat p),(1,nat q),(5,.osl 23 1 (fun _=>0) (fun _=>p.length+1)),(6,.int .u64 (fun _=>((c+(p.getD i 0).toNat+(q.getD i 0).toNat:Nat):Int))),(7,.int .i64 (fun _=>(i:Int))),(24,nat p),(25,.int .i64 (fun _=>(p.length:Int))),(26,.int .i64 (fun _=>(i:Int)))],[(23,.arr 1 (fun _=>lm out))]⟩) (fun _=>True) (fun h6=>?_) (fun h6=>?_) ?_
  ·cbv;refine xO i om om ?_;cbv;refine⟨(),trivial,.le ?_ ?_ rfl⟩
   ·cbv;refine⟨lR,lR,lR,zE ?_,lR,lR,lR,lR,trivial⟩
    (try dsimp only [zI] at *)
    simp only[uJ];omega
   {cbv;exact⟨zB rfl,trivial⟩}
  ·cbv;refine⟨(),trivial,.le ?_ ?_ rfl⟩
   ·cbv;refine⟨lR,lR,lR,zE ?_,lR,lR,lR,lR,trivial⟩;have:(q.getD i 0).toNat=0:=by have:q.length<=i:=om;simp[jT this]
    (try dsimp only [zI] at *)
    simp only[uJ];omega
   {cbv;exact⟨zB rfl,trivial⟩}
  intro _ _;generalize hd:c+(p.getD i 0).toNat+(q.getD i 0).toNat=d;cbv;refine⟨zQ om om,gH i (by simp) om ?_⟩;cbv;refine⟨v9 oM,zC om om,(i+1,d/B,out.set i (UInt32.ofNat d)),⟨om,?_,by simpa using h3,?_⟩,om,.le ?_ ?_ rfl⟩;{show d/B<2;simp only[B];omega}
  ·(show val ((out.set i (UInt32.ofNat d)).take (i+1))+B^(i+1)*(d/B)=val (p.take (i+1))+val (q.take (i+1));rw[uT _ om,zR p,zR q,x8];have e1:B^i*(d%B)+B^(i+1)*(d/B)=B^i*d:=by rw[xS,vI,<-yE,d6]);have e2:B^i*d=B^i*c+B^i*(p.getD i 0).toNat+B^i*(q.getD i 0).toNat:=by rw[<-hd,yE,yE]
   omega
  {cbv;refine⟨lR,lR,lR,zE (aH d),lR,lR,zE om,trivial⟩};{cbv;exact⟨zB (fL out (by simp) d),trivial⟩}
 {cbv;refine⟨zQ om om,gH p.length (by simp[zH]) om ?_⟩;cbv;have hi:i=p.length:=om;subst hi;refine aR (.trans (.le (ps':=⟨[(60,.osl 23 1 (fun _=>0) (fun _=>p.length+1))],[(23,.arr 1 (fun _=>lm (out.set p.length (UInt32.ofNat c))))]⟩) ?_ ?_ rfl) (.frz 23 rfl rfl ?_ ?_)) rfl (by refine⟨zY ?_,trivial⟩;exact yN (by simp[zH] <;> omega)) (cH (out.set p.length (UInt32.ofNat c)) (by simp;omega)) rfl ?_;{cbv;exact okA};{cbv;exact⟨zB (fL out (by simp[zH]) c),trivial⟩};{cbv;exact⟨yG (by simp[zH];omega),trivial⟩};{exact trivial};cbv;refine jB rfl ?_ rfl;refine zY ?_;congr 2;have e:=uT out (n:=p.length) oM (UInt32.ofNat c);rw[yN (by simp;omega),x8,wO (show c<B by simp only[B];omega),h4,yN (zV _),yN hpq] at e;omega}
theorem fJ (out:List UInt32){k j:Nat}(hk:k=j){z:Int}{w:Nat}(hz:z=(w:Int))(hw:w<B):(lm out).set k [.int .u32 z]=lm (out.set j (UInt32.ofNat w)):=by subst hk hz;rw[<-zTJ,x8,wO hw]
theorem zTL (z:Int):ishr .u64 z 63=z/9223372036854775808:=by unfold ishr;simp[IntKind.bits,zFJ]
theorem s222 (a b:List UInt32)(ha:a.length<2^40)(hb:b.length<2^40):zG 177 [nat a,nat b] (.tup [nat (zF (val a-val b)),.int .i64 (fun _=>if val b<=val a then 0 else 2)]):=by
 refine sF Tryz.f177 ?_;cbv;refine cA (cH a oM) ?_;cbv;refine cA (cH b oM) ?_;cbv;have ha':=xJ (zS a) ha;have hb':=xJ (zS b) hb;refine cA (s162 _ _ ha' hb') ?_;cbv;simp only[zM];refine zD (fun h=>?_) (fun h=>?_)
 ·(have h':val a<val b:=by rcases Nat.lt_trichotomy (val a) (val b) with h1|h1|h1;{exact h1};{rw[h1,zHX] at h;omega};{rw[zC6 h1] at h;omega});cbv;refine jB rfl ?_ rfl;refine⟨xB ?_,zE ?_,trivial⟩;{rw[Nat.sub_eq_zero_of_le oM,limbs_zero];rfl};{rw[if_neg oM]}
 have hle:val b<=val a:=by rcases wE (val a) (val b) with h1|h1;{rw[zC5 h1] at h;omega};{exact h1}
 have hv:val (zF (val a))=val a:=zM _;have hv2:val (zF (val b))=val b:=zM _;have hpq:(zF (val b)).length<=(zF (val a)).length:=by rcases wE (zF (val a)).length (zF (val b)).length with h1|h1;{have:=oP h1;omega};{exact h1}
 generalize zF (val a)=p at *
 generalize zF (val b)=q at *
 cbv;refine⟨yB om om,vF om om,?_⟩;cbv;refine zX (σ:=Nat×Nat×List UInt32) (fun s=>⟨[(0,nat p),(1,nat q),(6,.osl 21 1 (fun _=>0) (fun _=>p.length)),(7,.int .u64 (fun _=>(s.2.1:Int))),(22,nat p),(23,.int .i64 (fun _=>(p.length:Int))),(24,.int .i64 (fun _=>(s.1:Int)))],[(21,.arr 1 (fun _=>lm s.2.2))]⟩)
  (fun s=>s.1<=p.length/\s.2.1<2/\s.2.2.length=p.length/\val (s.2.2.take s.1)+val (q.take s.1)=val (p.take s.1)+B^s.1*s.2.1) (fun s=>p.length-s.1)
  (0,0,List.replicate p.length 0) ⟨om,om,by simp,by simp[val]⟩ (.le ?_ ?_ rfl) ?_
 {cbv;exact⟨lR,lR,zU rfl om,lR,lR,zE om,lR,trivial⟩}
 ·(cbv;refine⟨zB ?_,trivial⟩;show List.replicate (((lm p).length:Int)).toNat _=_;have:(((lm p).length:Int)).toNat=p.length:=by rw[zH];omega);rw[this]
  simp[lm,x6,toD]
 intro s hs;obtain⟨h1,h2,h3,h4⟩:=hs;generalize s.1=i at *
 generalize s.2.1=c at *
 generalize s.2.2=out at *
 cbv;refine zD (fun h5=>?_) (fun h5=>?_)
 ·cbv;refine xO i om om ?_;cbv;have hpi:=yL (p.getD i 0);have hqi:=yL (q.getD i 0);simp only[B] at hpi hqi;refine gI (σ:=Unit) (fun _=>⟨[(0,nat p),(1,nat q),(6,.osl 21 1 (fun _=>0) (fun _=>p.length)),(10,.int .u64 (fun _=>nx .u64 (((p.getD i 0).toNat:Int)-(c:Int)-((q.getD i 0).toNat:Int)))),(8,.int .i64 (fun _=>(i:Int))),(22,nat p),(23,.int .i64 (fun _=>(p.length:Int))),(24,.int .i64 (fun _=>(i:Int)))],[(21,.arr 1 (fun _=>lm out))]⟩) (fun _=>True) (fun h6=>?_) (fun h6=>?_) ?_
  ·cbv;refine xO i om om ?_;cbv;refine⟨(),trivial,.le ?_ ?_ rfl⟩
   ·cbv;refine⟨lR,lR,lR,zE ?_,lR,lR,lR,lR,trivial⟩
    (try dsimp only [zI] at *)
    simp only[uJ];omega
   {cbv;exact⟨zB rfl,trivial⟩}
  ·cbv;refine⟨(),trivial,.le ?_ ?_ rfl⟩
   ·cbv;refine⟨lR,lR,lR,zE ?_,lR,lR,lR,lR,trivial⟩;have:(q.getD i 0).toNat=0:=by have:q.length<=i:=om;simp[jT this]
    (try dsimp only [zI] at *)
    simp only[uJ];omega
   {cbv;exact⟨zB rfl,trivial⟩}
  (intro _ _;obtain⟨w,c',hw,hc',he⟩:∃ w c':Nat,w<B/\c'<2/\(p.getD i 0).toNat+B*c'=w+c+(q.getD i 0).toNat:=by simp only[B];by_cases hlt:(p.getD i 0).toNat<c+(q.getD i 0).toNat;{exact⟨(p.getD i 0).toNat+4294967296-c-(q.getD i 0).toNat,1,by omega,by omega,by omega⟩};{exact⟨(p.getD i 0).toNat-c-(q.getD i 0).toNat,0,by omega,by omega,by omega⟩});have hz:nx .u64 (((p.getD i 0).toNat:Int)-(c:Int)-((q.getD i 0).toNat:Int))=if c'=0 then (w:Int) else (w:Int)+18446744069414584320:=by
   rw[uJ];simp only[B] at *
   split <;> omega
  simp only[hz];cbv;refine⟨zQ om om,gH i (by simp) om ?_⟩;cbv;refine⟨v9 oM,zC om om,(i+1,c',out.set i (UInt32.ofNat w)),⟨om,hc',by simpa using h3,?_⟩,om,.le ?_ ?_ rfl⟩
  ·(show val ((out.set i (UInt32.ofNat w)).take (i+1))+val (q.take (i+1))=val (p.take (i+1))+B^(i+1)*c';rw[uT _ om,zR p,zR q,x8,wO hw];have e1:B^i*(p.getD i 0).toNat+B^(i+1)*c'=B^i*w+B^i*c+B^i*(q.getD i 0).toNat:=by rw[xS,vI,<-yE,he,yE,yE]);omega
  {cbv;refine⟨lR,lR,lR,zE ?_,lR,lR,zE om,trivial⟩;rw[zTL];show (if c'=0 then (w:Int) else (w:Int)+18446744069414584320)/9223372036854775808=(c':Int);simp only[B] at hw;split <;> omega};{cbv;refine⟨zB (fJ out (by simp) ?_ hw),trivial⟩;show nx .u32 (if c'=0 then (w:Int) else (w:Int)+18446744069414584320)=(w:Int);rw[gW];simp only[B] at hw;split <;> omega}
 ·cbv;have hi:i=p.length:=om;subst hi;refine aR (.trans (.le (ps':=⟨[(52,.osl 21 1 (fun _=>0) (fun _=>p.length))],[(21,.arr 1 (fun _=>lm out))]⟩) ?_ ?_ rfl) (.frz 21 rfl rfl ?_ ?_)) rfl (by refine⟨zY ?_,trivial⟩;exact yN (by simp[zH] <;> omega)) (cH out oM) rfl ?_;{cbv;exact okA};{cbv;exact⟨zB rfl,trivial⟩};{cbv;exact⟨yG (by simp[zH] <;> omega),trivial⟩};{exact trivial};cbv;refine jB rfl ?_ rfl;rw[yN oM,yN hpq,yN (zV _)] at h4;have hlo:=xZ out;have hlq:=xZ q;have hc0:c=0:=by
   rcases aY c with h6|h6;{exact h6}
   ·(exfalso;have:c=1:=by omega);subst this
    rw[h3] at hlo;omega
  subst hc0;refine⟨zY ?_,zE ?_,trivial⟩;{congr 2;omega};{rw[if_pos hle]}
theorem xW {n:Nat}(h:n<18446744073709551616):nx .u64 (n:Int)=(n:Int):=by rw[uJ];omega
theorem s194 (a b:List UInt32)(ha:a.length<2^40)(hb:b.length<2^40):zG 139 [nat a,nat b] (nat (zF (val a*val b))):=by
 refine sF Tryz.f139 ?_;cbv;refine cA (cH a oM) ?_;cbv;refine cA (cH b oM) ?_;cbv;have ha':=xJ (zS a) ha;have hb':=xJ (zS b) hb;have hv:val (zF (val a))=val a:=zM _;have hv2:val (zF (val b))=val b:=zM _;generalize zF (val a)=p at *
 generalize zF (val b)=q at *
 
 refine yD (fun h=>?_) (fun h=>?_);{cbv;refine jB rfl ?_ rfl;refine xB ?_;have:p=[]:=jS om;subst this;rw[<-hv];simp[val,limbs_zero,lm]};cbv;refine zD (fun h'=>?_) (fun h'=>?_);{cbv;refine jB rfl ?_ rfl;refine xB ?_;have:q=[]:=jS om;subst this;rw[<-hv2];simp[val,limbs_zero,lm]};cbv;refine⟨zC om om,yB om om,vF om om,?_⟩;cbv;refine zX (σ:=Nat×List UInt32) (fun s=>⟨[(0,nat p),(1,nat q),(5,.osl 28 1 (fun _=>0) (fun _=>p.length+q.length)),(29,nat p),(30,.int .i64 (fun _=>(p.length:Int))),(31,.int .i64 (fun _=>(s.1:Int)))],[(28,.arr 1 (fun _=>lm s.2))]⟩)
  (fun s=>s.1<=p.length/\s.2.length=p.length+q.length/\val s.2=val (p.take s.1)*val q/\∀ j,s.1+q.length<=j->s.2.getD j 0=0) (fun s=>p.length-s.1)
  (0,List.replicate (p.length+q.length) 0) ⟨om,by simp,by simp[val,fG],fun j _=>by simp only[yC,gC];split <;> rfl⟩ (.le ?_ ?_ rfl) ?_
 {cbv;exact⟨lR,lR,zU rfl om,lR,zE om,lR,trivial⟩}
 ·(cbv;refine⟨zB ?_,trivial⟩;show List.replicate (((lm p).length:Int)+((lm q).length:Int)).toNat _=_;have:(((lm p).length:Int)+((lm q).length:Int)).toNat=p.length+q.length:=by rw[zH,zH];omega);rw[this]
  simp[lm,x6,toD]
 intro s hs;obtain⟨h1,h2,h3,h4⟩:=hs;generalize s.1=i at *
 generalize s.2=out at *
 cbv;refine zD (fun h5=>?_) (fun h5=>?_)
 ·cbv;refine xO i om om ?_;cbv;have hx:=yL (p.getD i 0);generalize hpx:(p.getD i 0).toNat=x at *
  refine zX (σ:=Nat×Nat×List UInt32) (fun s=>⟨[(0,nat p),(1,nat q),(5,.osl 28 1 (fun _=>0) (fun _=>p.length+q.length)),(29,nat p),(30,.int .i64 (fun _=>(p.length:Int))),(31,.int .i64 (fun _=>(i:Int))),(6,.int .i64 (fun _=>(i:Int))),(7,.int .u32 (fun _=>(x:Int))),(8,.int .u64 (fun _=>(s.2.1:Int))),(36,nat q),(37,.int .i64 (fun _=>(q.length:Int))),(38,.int .i64 (fun _=>(s.1:Int)))],[(28,.arr 1 (fun _=>lm s.2.2))]⟩)
   (fun s=>s.1<=q.length/\s.2.1<B/\s.2.2.length=p.length+q.length/\val s.2.2+B^(i+s.1)*s.2.1=val (p.take i)*val q+B^i*(x*val (q.take s.1))/\∀ j,i+q.length<=j->s.2.2.getD j 0=0) (fun s=>q.length-s.1)
   (0,0,out) ⟨om,wI,h2,by simp[val,h3],h4⟩ (.le ?_ ?_ rfl) ?_
  {cbv;exact⟨lR,lR,lR,lR,lR,lR,lR,lR,lR,lR,zE om,lR,trivial⟩};{cbv;exact⟨zB rfl,trivial⟩};intro s hs;obtain⟨g1,g2,g3,g4,g5⟩:=hs;generalize s.1=k at *
  generalize s.2.1=c at *
  generalize s.2.2=out' at *
  cbv;refine zD (fun h6=>?_) (fun h6=>?_)
  ·(cbv;refine xO k om om ?_;cbv;have hik:0+((i:Int)+(k:Int)).toNat=i+k:=by omega);refine⟨zC om om,zQ om om,gH (i+k) hik om ?_⟩
   cbv;refine⟨zC om om,zQ om om,gH (i+k) hik om ?_⟩;cbv;have hy:=yL (q.getD k 0);have ho:=yL (out'.getD (i+k) 0);have hset:=a6 out' (j:=i+k) om (UInt32.ofNat (c+(x*(q.getD k 0).toNat+(out'.getD (i+k) 0).toNat)));have htk:=zR q k;generalize hqy:(q.getD k 0).toNat=y at *
   generalize hoo:(out'.getD (i+k) 0).toNat=o at *
   (have hm:x*y<=4294967295*4294967295:=s8 (by simp only[B] at hx;omega) (by simp only[B] at hy;omega);have hB:B=4294967296:=rfl;have hT:nx .u64 ((c:Int)+nx .u64 (nx .u64 (nx .u64 (x:Int)*nx .u64 (y:Int))+nx .u64 (o:Int)))=((c+(x*y+o):Nat):Int):=by rw[xW (n:=x) oM,xW (n:=y) oM,xW (n:=o) oM,<-zLE,xW (n:=x*y) oM,<-Int.natCast_add,xW (n:=x*y+o) oM,<-Int.natCast_add,xW oM]);refine⟨v9 oM,zC om om,(k+1,(c+(x*y+o))/B,out'.set (i+k) (UInt32.ofNat (c+(x*y+o)))),⟨om,?_,by simpa using g3,?_,?_⟩,om,.le ?_ ?_ rfl⟩
   {show (c+(x*y+o))/B<B;exact zI1 (by have:B*B=18446744073709551616:=rfl;omega)}
   ·show val (out'.set (i+k) (UInt32.ofNat (c+(x*y+o))))+B^(i+(k+1))*((c+(x*y+o))/B)=val (p.take i)*val q+B^i*(x*val (q.take (k+1)));rw[htk];rw[x8] at hset;have e0:∀ t,B^(i+k)*(t%B)+B^(i+(k+1))*(t/B)=B^(i+k)*t:=by
     (intro t;have:i+(k+1)=(i+k)+1:=by omega);rw[this,xS,vI,<-yE,d6]
    (have e1:=e0 (c+(x*y+o));have e3:B^(i+k)*(c+(x*y+o))=B^(i+k)*c+B^(i+k)*(x*y)+B^(i+k)*o:=by rw[yE,yE];omega);have e2:B^i*(x*(val (q.take k)+B^k*y))=B^i*(x*val (q.take k))+B^(i+k)*(x*y):=by rw[yE,yE,k8];congr 1;rw[zBX x,vI]
    omega
   {intro j hj;show (out'.set (i+k) _).getD j 0=0;rw[aJ _ _ _ _ om];exact g5 j hj};{cbv;refine⟨lR,lR,lR,lR,lR,lR,lR,lR,zE ?_,lR,lR,zE om,trivial⟩;exact (congrArg (fun z=>ishr .u64 z 32) hT).trans (aH _)};{cbv;refine⟨zB ?_,trivial⟩;exact (congrArg (fun z=>(lm out').set (0+((i:Int)+(k:Int)).toNat) [.int .u32 (nx .u32 z)]) hT).trans (fL out' hik _)}
  ·(cbv;have hkq:k=q.length:=om;subst hkq;have hlq:0+((i:Int)+((lm q).length:Int)).toNat=i+q.length:=by rw[zH];omega);refine⟨zC om om,zQ om om,gH (i+q.length) hlq om ?_⟩
   cbv;refine⟨zC om om,(i+1,out'.set (i+q.length) (UInt32.ofNat c)),⟨om,by simpa using g3,?_,?_⟩,om,.le ?_ ?_ rfl⟩;{show val (out'.set (i+q.length) (UInt32.ofNat c))=val (p.take (i+1))*val q;have hset:=a6 out' (j:=i+q.length) om (UInt32.ofNat c);rw[g5 _ (zV _),x8,wO g2] at hset;rw[yN (zV _)] at g4;rw[zR p,hpx,w7,vI];simp only[UInt32.toNat_zero,zBY,gM] at hset;omega};{intro j hj;show (out'.set (i+q.length) _).getD j 0=0;have hj':i+1+q.length<=j:=hj;rw[aJ _ _ _ _ oM];exact g5 j oM};{cbv;exact⟨lR,lR,lR,lR,lR,zE om,trivial⟩};{cbv;exact⟨zB (fL out' hlq c),trivial⟩}
 {cbv;have hip:i=p.length:=om;subst hip;refine aR (.trans (.le (ps':=⟨[(77,.osl 28 1 (fun _=>0) (fun _=>p.length+q.length))],[(28,.arr 1 (fun _=>lm out))]⟩) ?_ ?_ rfl) (.frz 28 rfl rfl ?_ ?_)) rfl (by refine⟨zY ?_,trivial⟩;exact yN (by simp[zH] <;> omega)) (cH out oM) rfl ?_;{cbv;exact okA};{cbv;exact⟨zB rfl,trivial⟩};{cbv;exact⟨yG (by simp[zH] <;> omega),trivial⟩};{exact trivial};cbv;refine jB rfl ?_ rfl;rw[yN (zV _)] at h3;refine zY ?_;rw[h3,hv,hv2]}
end Go.Proofs.YtfainocfaddbdaaGreat
namespace Go.Proofs.YtfainocfaddbdaaGreat
def pad (n m:Nat):List UInt32:=zF n++List.replicate (m-(zF n).length) 0
theorem zMX {l:List UInt32}{n m:Nat}(hl:l.length=m)(hv:val l=n):l=pad n m:=by
 have h1:(zF n).length<=m:=by rw[<-hv,<-hl];exact zS l
 refine zCN ?_ ?_;{simp[pad];omega};{rw[pad,vQ,fG,zM,hv];omega}
theorem aE {n m:Nat}(h:n<B^m):(pad n m).length=m:=by have:=z7 h;simp[pad];omega
theorem iS (n m:Nat):val (pad n m)=n:=by rw[pad,vQ,fG,zM];omega
theorem zQ6 {l:List UInt32}{n:Nat}(hl:l.length=n+2):val l=val (l.take n)+B^n*((l.getD (n+1) 0).toNat*B+(l.getD n 0).toNat):=by have h1:=zR l n;have h2:=zR l (n+1);rw[List.take_of_length_le (by omega)] at h2;rw[h2,h1,Nat.pow_succ,Nat.mul_add,Nat.mul_assoc,Nat.mul_comm B];omega
theorem zQ5 {l:List UInt32}{n:Nat}(hl:l.length=n+3):val l=val (l.take n)+B^n*(((l.getD (n+2) 0).toNat*B+(l.getD (n+1) 0).toNat)*B+(l.getD n 0).toNat):=by
 have h1:=zR l n;have h2:=zR l (n+1);have h3:=zR l (n+2);rw[List.take_of_length_le (by omega)] at h3;rw[h3,h2,h1];have e:B^(n+2)=B^n*(B*B):=by rw[Nat.pow_succ,Nat.pow_succ,Nat.mul_assoc]
 rw[e,Nat.pow_succ,Nat.mul_add,Nat.add_mul,Nat.mul_add,Nat.mul_assoc,Nat.mul_assoc];rw[Nat.mul_comm (B*B),<-Nat.mul_assoc (l.getD (n+2) 0).toNat,Nat.mul_comm B (l.getD (n+1) 0).toNat];omega
structure EstInv (U V P top v1 v2 u2:Nat) (q r:Nat):Prop where
 top:q*v1+r=top
 lo:U<(q+1)*V
theorem zR9 {U V P top v1 v2 u2 ur vr:Nat}(hv1:0<v1)(hU:U=ur+P*(top*B+u2))(hV:V=vr+P*(v1*B+v2))(hur:ur<P)(hu2:u2<B):EstInv U V P top v1 v2 u2 (top/v1) (top%v1):=by
 refine⟨by rw[Nat.mul_comm];exact Nat.div_add_mod top v1,?_⟩;have h1:top+1<=(top/v1+1)*v1:=by have:=Nat.div_add_mod top v1;have:=Nat.mod_lt top hv1;rw[Nat.add_mul,Nat.mul_comm (top/v1)];omega
 have h2:(top+1)*B<=(top/v1+1)*(v1*B+v2):=by rw[Nat.mul_add,<-Nat.mul_assoc];exact Nat.le_trans (Nat.mul_le_mul_right B h1) (Nat.le_add_right _ _)
 have h3:top*B+u2+1<=(top+1)*B:=by rw[Nat.add_mul];omega
 have h4:=Nat.mul_le_mul_left P (Nat.le_trans h3 h2);have h5:(top/v1+1)*V=(top/v1+1)*vr+P*((top/v1+1)*(v1*B+v2)):=by rw[hV,Nat.mul_add,Nat.mul_left_comm]
 have h6:P*(top*B+u2+1)=P*(top*B+u2)+P:=by rw[Nat.mul_add,Nat.mul_one]
 omega
theorem zR8 {U V P top v1 v2 u2 ur vr q r:Nat}(hU:U=ur+P*(top*B+u2))(hV:V=vr+P*(v1*B+v2))(hur:ur<P) (ht:q*v1+r=top) (h:r*B+u2<q*v2):U<q*V:=by
 have h1:top*B+u2+1<=q*(v1*B+v2):=by rw[<-ht,Nat.mul_add,Nat.add_mul,Nat.mul_assoc];omega
 have h2:=Nat.mul_le_mul_left P h1;have h3:q*V=q*vr+P*(q*(v1*B+v2)):=by rw[hV,Nat.mul_add,Nat.mul_left_comm]
 have h4:P*(top*B+u2+1)=P*(top*B+u2)+P:=by rw[Nat.mul_add,Nat.mul_one]
 omega
theorem zR7 {U V P top v1 v2 u2 q r:Nat}(hq:0<q)(ht:q*v1+r=top)(h:U<q*V):EstInv U V P top v1 v2 u2 (q-1) (r+v1):=by obtain⟨k,rfl⟩:∃ k,q=k+1:=⟨q-1,by omega⟩;refine⟨?_,by simpa using h⟩;rw[<-ht,Nat.add_sub_cancel,Nat.add_mul];omega
theorem zGG {U V P top v1 v2 u2 ur vr q r:Nat}(hv1:0<v1)(hU:U=ur+P*(top*B+u2))(hV:V=vr+P*(v1*B+v2))(hvr:vr<P) (ht:q*v1+r=top) (hq:q<=B) (h:q*v2<=r*B+u2):q*V<=U+V:=by
 have h1:q*(v1*B+v2)<=top*B+u2:=by rw[<-ht,Nat.mul_add,Nat.add_mul,Nat.mul_assoc];omega
 have h2:=Nat.mul_le_mul_left P h1;have h3:q*V=q*vr+P*(q*(v1*B+v2)):=by rw[hV,Nat.mul_add,Nat.mul_left_comm]
 have h4:q*vr<=B*P:=Nat.mul_le_mul hq (Nat.le_of_lt hvr);have h5:B*P<=P*(v1*B+v2):=by rw[Nat.mul_comm B P];refine Nat.mul_le_mul_left P (Nat.le_trans (?_:B<=v1*B) (Nat.le_add_right _ _));exact Nat.le_mul_of_pos_left B hv1
 omega
def nZ (v1 v2 u2 q r:Nat):Nat :=
 if h:B<=r\/v1=0 then q
 else if B<=q\/r*B+u2<q*v2 then (if B<=r+v1 then q-1 else nZ v1 v2 u2 (q-1) (r+v1)) else q
termination_by B-r
decreasing_by simp at h;omega
structure Est (U V q:Nat):Prop where
 b:q<B
 lo:U<(q+1)*V
 hi:q*V<=U+V
theorem zKG {U V P top v1 v2 u2 ur vr:Nat}(hv1:0<v1)(hv2:v2<B)(hu2:u2<B)(hU:U=ur+P*(top*B+u2))(hV:V=vr+P*(v1*B+v2))(hur:ur<P)(hvr:vr<P)(hlt:U<B*V)(htop:top<v1*B+B):∀ n q r,B-r<=n->EstInv U V P top v1 v2 u2 q r->r<B->q<=B+1->Est U V (nZ v1 v2 u2 q r)
 |0,q,r,hn,hi,hr,hq=>by omega| n+1,q,r,hn,hi,hr,hq=>by
  rw[nZ];rw[dif_neg (by omega)];by_cases hc:B<=q\/r*B+u2<q*v2
  ·rw[if_pos hc];have hq0:0<q:=by rcases hc with h|h;{exact Nat.lt_of_lt_of_le wI h};{rcases Nat.eq_zero_or_pos q with e|e;{rw[e] at h;simp at h};{exact e}}
   (have hover:U<q*V:=by rcases hc with h|h;{exact Nat.lt_of_lt_of_le hlt (Nat.mul_le_mul_right V h)};{exact zR8 hU hV hur hi.top h});have hst:=zR7 (P:=P) (v2:=v2) (u2:=u2) hq0 hi.top hover;by_cases h2:B<=r+v1
   ·(rw[if_pos h2];have hqB:q-1<B:=by rcases Nat.lt_or_ge (q-1) B with h|h;{exact h};{have h3:=hst.top;have h4:=Nat.mul_le_mul_right v1 h;rw[Nat.mul_comm B v1] at h4;omega});refine⟨hqB,hst.lo,zGG (r:=r+v1) (v2:=v2) (u2:=u2) hv1 hU hV hvr hst.top (Nat.le_of_lt hqB) ?_⟩;have h5:(q-1)*v2<=B*B:=Nat.mul_le_mul (Nat.le_of_lt hqB) (Nat.le_of_lt hv2);have h6:B*B<=(r+v1)*B:=Nat.mul_le_mul_right B h2;omega
   {rw[if_neg h2];exact zKG hv1 hv2 hu2 hU hV hur hvr hlt htop n _ _ (by omega) hst (by omega) (by omega)}
  ·(rw[if_neg hc];have h1:q<B:=by omega);exact⟨h1,hi.lo,zGG hv1 hU hV hvr hi.top (Nat.le_of_lt h1) (by omega)⟩
def zET (U V q:Nat):Nat:=if q*V<=U then q else q-1
theorem zSF {U V q:Nat}(hV:0<V)(h:Est U V q):zET U V q=U/V:=by
 unfold zET;split;{rename_i h1;exact (Nat.div_eq_of_lt_le h1 h.lo).symm}
 ·(rename_i h1;have h1:U<q*V:=by omega);have hq:q≠0:=fun e=>by rw[e] at h1;omega
  obtain⟨k,rfl⟩:∃ k,q=k+1:=⟨q-1,by omega⟩;have h2:=h.hi;rw[Nat.add_mul,Nat.one_mul] at h2;rw[Nat.add_sub_cancel];exact (Nat.div_eq_of_lt_le (by omega) h1).symm
theorem iU {l:List UInt32}(n:Nat)(h:n<=l.length):val l=val (l.take n)+B^n*val (l.drop n):=by
 have e:(l.take n).length=n:=by simp;omega
 calc val l=val (l.take n++l.drop n):=by rw[List.take_append_drop]
  _=_:=by rw[vQ,e]
theorem kX {l:List UInt32}{i:Nat}(h:i<l.length):val (l.drop i)=(l.getD i 0).toNat+B*val (l.drop (i+1)):=by
 have:l.drop i=l.getD i 0::l.drop (i+1):=by rw[List.drop_eq_getElem_cons h];simp[h]
 rw[this];rfl
theorem zBD {l:List UInt32}(n:Nat)(hn:n<=l.length)(h:val l<B^n):val (l.drop n)=0:=by have h1:=iU n hn;rcases Nat.eq_zero_or_pos (val (l.drop n)) with h2|h2;{exact h2};{have:=Nat.mul_le_mul_left (B^n) h2;omega}
theorem zP9 {pre x post:List UInt32}{V n q:Nat}(hx:x.length=n+1)(hpost:val post=0)(hV:val x<V*B)(hVn:V<B^n)(h0:0<V)(hq:q=val x/V):q<B/\val (pad (val x-q*V) (n+1)++post)<V /\ val (pre++(pad (val x-q*V) (n+1)++post))+V*(B^pre.length*q)=val (pre++(x++post)):=by
 have hmod:val x-q*V=val x%V:=by have:=Nat.div_add_mod (val x) V;rw[hq,Nat.mul_comm];omega
 have hlt:=Nat.mod_lt (val x) h0;refine⟨by rw[hq,Nat.div_lt_iff_lt_mul h0,Nat.mul_comm];exact hV,?_,?_⟩;{rw[vQ,iS,hpost,hmod];simpa using hlt};{rw[vQ,vQ,vQ,vQ,iS,hpost,hmod];simp only[Nat.mul_zero,Nat.add_zero];have:=Nat.div_add_mod (val x) V;rw[<-hq] at this;have e:V*(B^pre.length*q)=B^pre.length*(V*q):=Nat.mul_left_comm _ _ _;rw[e,Nat.add_assoc,<-Nat.mul_add];congr 2;omega}
end Go.Proofs.YtfainocfaddbdaaGreat
