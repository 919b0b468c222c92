/- A part of the proof: PnA, NtA, NtB, NtC, NtD. -/
import Derived.Test.YtfainocfaddbdaaGreatZ14
set_option linter.all false
namespace Go.Proofs.YtfainocfaddbdaaGreat
def B:Nat:=4294967296
theorem xO:0<B:=by decide
theorem yF (x:UInt32):x.toNat<B:=x.toNat_lt
def val:List UInt32->Nat
 |[]=>0| x::r=>x.toNat+B*val r
def zE (n:Nat):List UInt32 :=
 if h:n=0 then [] else UInt32.ofNat (n%B)::zE (n/B)
termination_by n
decreasing_by exact Nat.div_lt_self (by omega) (by decide)
theorem z6:zE 0=[]:=by rw[zE];simp
theorem gT {n:Nat}(h:n≠0):zE n=UInt32.ofNat (n%B)::zE (n/B):=by rw[zE];simp[h]
theorem gR (n:Nat):(UInt32.ofNat (n%B)).toNat=n%B:=by rw[UInt32.toNat_ofNat'];exact Nat.mod_eq_of_lt (Nat.mod_lt _ xO)
theorem zM (n:Nat):val (zE n)=n:=by
 induction n using Nat.strongRecOn with
 |_ n ih =>
  by_cases h:n=0;{subst h;rw[z6];rfl};{rw[gT h,val,gR,ih (n/B) (Nat.div_lt_self (by omega) (by decide))];exact Nat.mod_add_div n B}
theorem wE:∀ (a b:List UInt32),val (a++b)=val a+B^a.length*val b
 |[],b=>by simp[val]| x::a,b=>by simp only[List.cons_append,val,List.length_cons,wE a b];rw[Nat.mul_add,Nat.pow_succ,<-Nat.mul_assoc,Nat.mul_comm B (B^a.length)];omega
theorem xH:∀ (l:List UInt32),val l<B^l.length
 |[]=>by simp[val]| x::r=>by have h1:=xH r;have h2:=yF x;have h3:B*(val r+1)<=B*B^r.length:=Nat.mul_le_mul_left _ h1;simp only[val,List.length_cons,Nat.pow_succ];rw[Nat.mul_comm (B^r.length) B];rw[Nat.mul_add] at h3;omega
def j7:List UInt32->Bool
 |[]=>true| [x]=>x != 0| _::y::r=>j7 (y::r)
theorem oG (x:UInt32){r:List UInt32}(h:r≠[]):j7 (x::r)=j7 r:=by
 cases r with
 |nil=>exact absurd rfl h| cons y r=>rfl
theorem zBE:∀ {l:List UInt32},j7 l=true->l≠[]->0<val l
 |[],_,h=>absurd rfl h| [x],h,_=>by
  (have h1:x≠0:=by simpa[j7] using h);have:x.toNat≠0:=fun e=>h1 (UInt32.toNat_inj.1 e)
  simp only[val];omega
 |x::y::r,h,_=>by have h1:=zBE (l:=y::r) h (by simp);have:B*1<=B*val (y::r):=Nat.mul_le_mul_left _ h1;have h2:(0:Nat)<B:=xO;show 0<x.toNat+B*val (y::r);omega
theorem sB:∀ {l:List UInt32},j7 l=true->zE (val l)=l
 |[],_=>by simp[val,z6]| x::r,h=>by
  (have hp:=zBE h (by simp);rw[gT (by omega)];have hx:=yF x;have h1:val (x::r)%B=x.toNat:=by simp only[val];rw[Nat.add_mul_mod_self_left,Nat.mod_eq_of_lt hx]);have h2:val (x::r)/B=val r:=by simp only[val];rw[Nat.add_mul_div_left _ _ xO,Nat.div_eq_of_lt hx];omega
  rw[h1,h2];have hr:j7 r=true:=by
   cases r with
   |nil=>rfl| cons y r=>exact h
  rw[sB hr];congr 1;exact UInt32.toNat_inj.1 (by rw[UInt32.toNat_ofNat'];exact Nat.mod_eq_of_lt hx)
theorem dJ (n:Nat):j7 (zE n)=true:=by
 induction n using Nat.strongRecOn with
 |_ n ih =>
  by_cases h:n=0;{subst h;rw[z6];rfl}
  ·rw[gT h];by_cases h2:n/B=0
   ·(rw[h2,z6];have hlt:n<B:=(Nat.div_eq_zero_iff_lt xO).1 h2;have:(UInt32.ofNat (n%B)).toNat≠0:=by rw[gR,Nat.mod_eq_of_lt hlt];exact h);simp only[j7,bne_iff_ne,ne_eq]
    exact fun e=>this (by rw[e];rfl)
   {rw[oG _ (by rw[gT h2];simp)];exact ih _ (Nat.div_lt_self (by omega) (by decide))}
theorem r4 (l:List UInt32)(x:UInt32):j7 (l++[x])=(x != 0):=by
 induction l with
 |nil=>rfl| cons y l ih=>rw[List.cons_append,oG _ (by simp),ih]
theorem zAB (l:List UInt32):val (l++[0])=val l:=by rw[wE];simp[val]
theorem nU:∀ {a b:List UInt32},a.length=b.length->val a=val b->a=b
 |[],[],_,_=>rfl| x::a,y::b,hl,hv=>by
  (simp only[val] at hv;have hx:=yF x;have hy:=yF y;have h1:x.toNat=y.toNat:=by have:=congrArg (· % B) hv;simp only[Nat.add_mul_mod_self_left,Nat.mod_eq_of_lt hx,Nat.mod_eq_of_lt hy] at this;exact this);have h2:val a=val b:=by rw[h1] at hv;exact Nat.eq_of_mul_eq_mul_left xO (Nat.add_left_cancel hv)
  rw[UInt32.toNat_inj.1 h1,nU (by simpa using hl) h2]
 |[],y::b,hl,_=>by simp at hl| x::a,[],hl,_=>by simp at hl
theorem z7 {n k:Nat}(h:n<B^k):(zE n).length<=k:=by
 induction k generalizing n with
 |zero =>
  (have:n=0:=by simpa using h);subst this
  rw[z6];simp
 |succ k ih =>
  by_cases h0:n=0;{subst h0;rw[z6];simp}
  ·(rw[gT h0,List.length_cons];have:n/B<B^k:=by rw[Nat.div_lt_iff_lt_mul xO];rw[Nat.pow_succ] at h;exact h);have:=ih this;omega
theorem zU (l:List UInt32):(zE (val l)).length<=l.length:=z7 (xH l)
theorem nS {n k:Nat}(h:B^k<=n):k<(zE n).length:=by rcases Nat.lt_or_ge k (zE n).length with h'|h';{exact h'};{have h1:=xH (zE n);rw[zM] at h1;have:B^(zE n).length<=B^k:=Nat.pow_le_pow_right xO h';omega}
theorem xJ {n:Nat}:zE n=[]↔n=0:=by constructor;{intro h;have:=zM n;rw[h] at this;exact this.symm};{intro h;subst h;exact z6}
theorem jJ (l:List UInt32){n:Nat}(h:n<l.length):l.take (n+1)=l.take n++[l.getD n 0]:=by rw[List.take_add_one];simp[h]
theorem aQ (l:List UInt32){m:Nat}(h:m<l.length):val l=val (l.take m)+B^m*((l.getD m 0).toNat+B*val (l.drop (m+1))):=by
 have e:l=l.take m++(l.getD m 0::l.drop (m+1)):=by
  (have:l.drop m=l.getD m 0::l.drop (m+1):=by rw[List.drop_eq_getElem_cons h];simp[h]);rw[<-this,List.take_append_drop]
 have hl:(l.take m).length=m:=by simp;omega
 calc val l=val (l.take m++(l.getD m 0::l.drop (m+1))):=by rw[<-e]
  _=_:=by rw[wE,hl];rfl
theorem xU (l:List UInt32)(m:Nat):val (l.take m)<B^m:=by
 have h1:=xH (l.take m);have h2:(l.take m).length<=m:=by simp;omega
 exact Nat.lt_of_lt_of_le h1 (Nat.pow_le_pow_right xO h2)
theorem zLJ {a b:List UInt32}{m:Nat}(ha:m<a.length)(hb:m<b.length)(hd:a.drop (m+1)=b.drop (m+1))(h:(a.getD m 0).toNat<(b.getD m 0).toNat):val a<val b:=by
 rw[aQ a ha,aQ b hb,hd];have h1:=xU a m;have h2:(a.getD m 0).toNat+1+B*val (b.drop (m+1))<=(b.getD m 0).toNat+B*val (b.drop (m+1)):=by omega
 have h3:=Nat.mul_le_mul_left (B^m) h2;have h4:B^m*((a.getD m 0).toNat+1+B*val (b.drop (m+1)))=B^m*((a.getD m 0).toNat+B*val (b.drop (m+1)))+B^m:=by rw[Nat.add_right_comm,Nat.mul_add (B^m) _ 1,Nat.mul_one]
 omega
theorem tV {n m:Nat}(h:(zE n).length<(zE m).length):n<m:=by have h1:=xH (zE n);rw[zM] at h1;rcases Nat.lt_or_ge n m with h'|h';{exact h'};{have h2:=z7 (Nat.lt_of_le_of_lt h' h1);omega}
def vI (a b:Nat):Int:=if a<b then -1 else if b<a then 1 else 0
theorem lH {a b:Nat}(h:a<b):vI a b=-1:=by simp[vI,h]
theorem lI {a b:Nat}(h:b<a):vI a b=1:=by simp[vI,h,Nat.not_lt.2 (Nat.le_of_lt h)]
theorem zB3 (a:Nat):vI a a=0:=by simp[vI]
theorem zCY (l:List UInt32)(x:UInt32):val (l++[x])=val l+B^l.length*x.toNat:=by rw[wE];simp[val]
theorem sU (l:List UInt32){n:Nat}(h:n<l.length):val (l.take (n+1))=val (l.take n)+B^n*(l.getD n 0).toNat:=by rw[jJ l h,zCY];congr 3;simp;omega
theorem zR (l:List UInt32)(n:Nat):val (l.take (n+1))=val (l.take n)+B^n*(l.getD n 0).toNat:=by rcases Nat.lt_or_ge n l.length with h|h;{exact sU l h};{rw[List.take_of_length_le (by omega),List.take_of_length_le h];simp[List.getElem?_eq_none h]}
theorem w6 (l:List UInt32){n:Nat}(h:n<l.length)(x:UInt32):val ((l.set n x).take (n+1))=val (l.take n)+B^n*x.toNat:=by rw[sU _ (by simpa using h)];congr 2;{rw[List.take_set_of_le (Nat.le_refl _)]};{simp[h]}
theorem xD (n:Nat):(UInt32.ofNat n).toNat=n%B:=by rw[UInt32.toNat_ofNat'];rfl
theorem f7 (l:List UInt32){j:Nat}(h:j<l.length)(x:UInt32):val (l.set j x)+B^j*(l.getD j 0).toNat=val l+B^j*x.toNat:=by
 have hs:j<(l.set j x).length:=by simpa using h
 rw[aQ l h,aQ (l.set j x) hs];have e1:(l.set j x).take j=l.take j:=List.take_set_of_le (Nat.le_refl _);have e2:(l.set j x).drop (j+1)=l.drop (j+1):=by rw[List.drop_set_of_lt (by omega)]
 have e3:(l.set j x).getD j 0=x:=by simp[h]
 rw[e1,e2,e3,Nat.mul_add,Nat.mul_add];omega
theorem kJ (n:Nat):val (List.replicate n 0)=0:=by
 induction n with
 |zero=>rfl| succ n ih=>simp[List.replicate_succ,val,ih]
theorem fS (l:List UInt32)(j k:Nat)(x:UInt32)(h:j≠k):(l.set j x).getD k 0=l.getD k 0:=by simp[List.getElem?_set_ne h]
end Go.Proofs.YtfainocfaddbdaaGreat
namespace Go.Proofs.YtfainocfaddbdaaGreat
open Go
set_option maxRecDepth 100000
theorem jZ (l:List UInt32)(hl:l.length<2^44):zH 160 [nat l] (nat (zE (val l))):=by
 refine sF Tryz.f160 ?_;cbv;refine z9 (σ:=Nat) (fun n=>⟨[(0,nat l),(2,.nil),(3,.int .i64 (fun _=>(n:Int)))],[]⟩) (fun n=>n<=l.length/\val (l.take n)=val l) (fun n=>n) l.length ⟨Nat.le_refl _,by simp⟩ (.le ?_ trivial rfl) ?_;{cbv;exact⟨lR,lR,zC (by simp[zG]),trivial⟩};intro n hn;cbv;refine yO (fun h=>?_) (fun h=>?_)
 ·(try dsimp only [zJ] at *)
  obtain⟨m,rfl⟩:∃ m,n=m+1:=⟨n-1,by omega⟩;cbv;refine⟨zD om om,y6 m om om ?_⟩;cbv;refine zF (fun h2=>?_) (fun h2=>?_)
  ·cbv;refine⟨zD om om,m,⟨om,?_⟩,om,.le ?_ trivial rfl⟩
   ·(have e:l.getD m 0=0:=by have:(l.getD m 0).toNat=0:=om;exact UInt32.toNat_inj.1 this);rw[<-hn.2,jJ l (by omega),e,zAB]
   {cbv;exact⟨lR,lR,zC om,trivial⟩}
  ·(cbv;refine zF (fun h3=>om) (fun h3=>?_);cbv;refine⟨aS om om om,rQ l,?_⟩;cbv;refine uZ rfl ?_ rfl;refine zX ?_;have e:l.getD m 0≠0:=fun e=>by (try dsimp only [zJ] at *);rw[e] at h2;exact h2 rfl);simp only[zG0,zG1]
   rw[<-hn.2,sB (by rw[jJ l (by omega),r4];simpa using e)];rfl
 {cbv;refine zF (fun h3=>?_) (fun h3=>om);cbv;refine uZ rfl ?_ rfl;refine zO ?_;have:n=0:=om;subst this;rw[<-hn.2];simp[val,z6,lm]}
theorem ty34:ty 25=.sli 1 4 [.int .u32 (fun _=>0)]:=by cbv
theorem s230 (l:List UInt32)(hl:l.length<2^40):zH 168 [nat l] (nat l):=by refine sF Tryz.f168 ?_;cbv;refine⟨fun b hb=>?_⟩;cbv;refine yZ (fun h=>?_) (fun h=>?_);{cbv;refine uZ rfl ?_ rfl;exact zO (hb h)};{cbv;refine v7 ty34 rfl rfl rfl rfl rfl (rQ l) (yR om (by simp only[List.length_nil];(try dsimp only [zJ] at *) <;> (try simp only[zG] at *) <;> omega)) rfl ?_;cbv;refine retW (.frz 7 rfl rfl ?_ ?_) rfl ?_ rfl;{cbv;exact⟨yM (by simp),yM (by simp),trivial⟩};{exact trivial};{refine zX ?_;simp}}
theorem s223 (l:List UInt32)(hl:l.length<2^40):zH 162 [nat l] (nat (zE (val l))):=by refine sF Tryz.f162 ?_;cbv;refine cA (jZ l (by omega)) ?_;cbv;refine cA (s230 _ (Nat.lt_of_le_of_lt (zU l) hl)) ?_;cbv;refine uZ rfl ?_ rfl;exact lR
theorem bE {l:List UInt32}(h:l≠[]):j7 l=(l.getD (l.length-1) 0 != 0):=by
 have:l=l.dropLast++[l.getD (l.length-1) 0]:=by rw[List.getD_eq_getElem?_getD,<-List.getLast?_eq_getElem?,List.getLast?_eq_some_getLast h];exact (List.dropLast_concat_getLast h).symm
 rw[this,r4];simp
theorem zMB (x:UInt32):(x != 0)=!decide ((x.toNat:Int)=0):=by rw[Bool.eq_iff_iff];simp only[bne_iff_ne,ne_eq,Bool.not_eq_true',decide_eq_false_iff_not];constructor;{intro h e;exact h (UInt32.toNat_inj.1 (by simpa using e))};{intro h e;exact h (by rw[e];rfl)}
theorem s160 (l:List UInt32)(hl:l.length<2^40):zH 154 [nat l] (.bool (fun _=>j7 l)):=by
 refine sF Tryz.f154 ?_;cbv;refine yO (fun h=>?_) (fun h=>?_);{cbv;refine uZ rfl ?_ rfl;refine zV ?_;have:l=[]:=List.eq_nil_of_length_eq_zero om;subst this;rfl}
 ·(cbv;refine⟨zD om om,y6 (l.length-1) om om ?_⟩;cbv;refine uZ rfl ?_ rfl;refine kQ ?_;have hne:l≠[]:=fun e=>by subst e;exact h rfl);rw[bE hne]
  exact zMB _
theorem s211 (x:Nat)(hx:x<B*B):zH 142 [.int .u64 (fun _=>(x:Int))] (nat (zE x)):=by
 refine sF Tryz.f142 ?_;cbv;refine⟨wN (by omega),?_⟩;refine wD rfl (by
  (refine⟨zX ?_,trivial⟩;have h1:ishr .u64 (x:Int) 32=((x/B:Nat):Int):=by unfold ishr;simp[IntKind.bits,B,Int.fdiv_eq_ediv_of_nonneg]);have h2:x/B<B:=Nat.div_lt_of_lt_mul hx;simp only[y8,x4,toD,lm,List.map_cons,List.map_nil,zJ,h1,qY,gR];rw[UInt32.toNat_ofNat',Nat.mod_eq_of_lt (show x/B<2^32 from h2)];simp only[B] at *
  congr 3
  ·congr 1;omega) (jZ [UInt32.ofNat (x%B),UInt32.ofNat (x/B)] (by simp)) rfl ?_
 cbv;refine uZ rfl ?_ rfl;refine zX ?_;have h2:x/B<B:=Nat.div_lt_of_lt_mul hx;have:val [UInt32.ofNat (x%B),UInt32.ofNat (x/B)]=x:=by simp only[val,gR];rw[UInt32.toNat_ofNat',Nat.mod_eq_of_lt (show x/B<2^32 from h2),Nat.mul_zero,Nat.add_zero];exact Nat.mod_add_div x B
 rw[this]
theorem s162 (a b:List UInt32)(ha:a.length<2^40)(hb:b.length<2^40):zH 156 [nat a,nat b] (.int .i64 (fun _=>vI (val a) (val b))):=by
 refine sF Tryz.f156 ?_;cbv;refine cA (jZ a (by omega)) ?_;cbv;refine cA (jZ b (by omega)) ?_;cbv;have ha':=Nat.lt_of_le_of_lt (zU a) ha;have hb':=Nat.lt_of_le_of_lt (zU b) hb;refine zF (fun h=>?_) (fun h=>?_)
 ·cbv;have hl:(zE (val a)).length=(zE (val b)).length:=om;refine⟨zD om om,?_⟩;refine z9 (σ:=Nat) (fun n=>⟨[(0,nat (zE (val a))),(1,nat (zE (val b))),(5,.int .i64 (fun _=>(n:Int)-1))],[]⟩) (fun n=>n<=(zE (val a)).length/\(zE (val a)).drop n=(zE (val b)).drop n) (fun n=>n) (zE (val a)).length ⟨Nat.le_refl _,by simp[hl]⟩ (.le ?_ trivial rfl) ?_;{cbv;exact⟨lR,lR,zC om,trivial⟩};intro n hn;cbv;refine zF (fun h2=>?_) (fun h2=>?_)
  ·(try dsimp only [zJ] at *)
   obtain⟨m,rfl⟩:∃ m,n=m+1:=⟨n-1,by omega⟩;cbv;refine zZ 9 (by cbv) ?_;cbv;refine y6 m om om ?_;cbv;refine y6 m om om ?_;cbv;refine zF (fun h3=>?_) (fun h3=>?_)
   ·cbv;refine⟨zD om om,m,⟨om,?_⟩,om,.le ?_ trivial rfl⟩
    ·(try dsimp only [zJ] at *)
     have e:(zE (val a)).getD m 0=(zE (val b)).getD m 0:=UInt32.toNat_inj.1 (by omega);rw[List.drop_eq_getElem_cons (by omega:m<(zE (val a)).length),List.drop_eq_getElem_cons (by omega:m<(zE (val b)).length),hn.2];congr 1;simpa[show m<(zE (val a)).length by omega,show m<(zE (val b)).length by omega] using e
    {cbv;exact⟨lR,lR,zC om,trivial⟩}
   {cbv;refine zZ 9 (by cbv) ?_;cbv;refine y6 m om om ?_;cbv;refine y6 m om om ?_;cbv;refine zF (fun h4=>?_) (fun h4=>?_);{cbv;refine uZ rfl ?_ rfl;refine zC ?_;have:=zLJ (a:=zE (val a)) (b:=zE (val b)) (m:=m) om om hn.2 om;rw[zM,zM] at this;rw[lH this]};{cbv;refine uZ rfl ?_ rfl;refine zC ?_;have:=zLJ (a:=zE (val b)) (b:=zE (val a)) (m:=m) om om hn.2.symm om;rw[zM,zM] at this;rw[lI this]}}
  ·(cbv;refine uZ rfl ?_ rfl;refine zC ?_;have h0:n=0:=om;subst h0;have e:zE (val a)=zE (val b):=by simpa using hn.2);have:val a=val b:=by rw[<-zM (val a),e,zM]
   rw[this,zB3]
 {cbv;refine zF (fun h2=>?_) (fun h2=>?_);{cbv;refine uZ rfl ?_ rfl;refine zC ?_;rw[lH (tV om)]};{cbv;refine uZ rfl ?_ rfl;refine zC ?_;rw[lI (tV om)]}}
theorem zLA (l:List UInt32)(i:Nat)(x:UInt32):(lm l).set i [.int .u32 x.toNat]=lm (l.set i x):=by simp[lm,List.map_set]
theorem fR (n:Nat):ishr .u64 (n:Int) 32=((n/B:Nat):Int):=by unfold ishr;simp[IntKind.bits,B,Int.fdiv_eq_ediv_of_nonneg]
theorem kP (out:List UInt32){k j:Nat}(hk:k=j)(d:Nat):(lm out).set k [.int .u32 (nx .u32 ((d:Nat):Int))]=lm (out.set j (UInt32.ofNat d)):=by subst hk;rw[<-zLA,xD,qY];simp[B]
theorem s221 (a b:List UInt32)(ha:a.length<2^40)(hb:b.length<2^40):zH 176 [nat a,nat b] (nat (zE (val a+val b))):=by
 refine sF Tryz.f176 ?_;cbv;refine cA (jZ a (by omega)) ?_;cbv;refine cA (jZ b (by omega)) ?_;cbv;have ha':=Nat.lt_of_le_of_lt (zU a) ha;have hb':=Nat.lt_of_le_of_lt (zU b) hb;refine fY (σ:=List UInt32×List UInt32) (fun s=>⟨[(0,nat s.1),(1,nat s.2),(4,.nil)],[]⟩) (fun s=>s.2.length<=s.1.length/\s.1.length<2^40/\val s.1+val s.2=val a+val b) (fun h=>?_) (fun h=>?_) ?_;{cbv;refine⟨(zE (val b),zE (val a)),⟨om,hb',by simp only[zM];omega⟩,.le ?_ trivial rfl⟩;cbv;exact okA};{cbv;refine⟨(zE (val a),zE (val b)),⟨om,ha',by simp only[zM]⟩,.le ?_ trivial rfl⟩;cbv;exact okA};intro s hs;obtain⟨hpq,hp,hv⟩:=hs;generalize s.1=p at *
 generalize s.2=q at *
 cbv;refine⟨zD om om,yR om om,wL om om,?_⟩;cbv;refine z9 (σ:=Nat×Nat×List UInt32) (fun s=>⟨[(0,nat p),(1,nat q),(5,.osl 23 1 (fun _=>0) (fun _=>p.length+1)),(6,.int .u64 (fun _=>(s.2.1:Int))),(24,nat p),(25,.int .i64 (fun _=>(p.length:Int))),(26,.int .i64 (fun _=>(s.1:Int)))],[(23,.arr 1 (fun _=>lm s.2.2))]⟩)
  (fun s=>s.1<=p.length/\s.2.1<2/\s.2.2.length=p.length+1/\val (s.2.2.take s.1)+B^s.1*s.2.1=val (p.take s.1)+val (q.take s.1)) (fun s=>p.length-s.1)
  (0,0,List.replicate (p.length+1) 0) ⟨om,om,by simp,by simp[val]⟩ (.le ?_ ?_ rfl) ?_
 {cbv;exact⟨lR,lR,yB rfl om,lR,lR,zC om,lR,trivial⟩}
 ·(cbv;refine⟨zB ?_,trivial⟩;show List.replicate (((lm p).length:Int)+1).toNat _=_;have:(((lm p).length:Int)+1).toNat=p.length+1:=by rw[zG];omega);rw[this]
  simp[lm,x4,toD]
 intro s hs;obtain⟨h1,h2,h3,h4⟩:=hs;generalize s.1=i at *
 generalize s.2.1=c at *
 generalize s.2.2=out at *
 cbv;refine zF (fun h5=>?_) (fun h5=>?_)
 ·cbv;refine y6 i om om ?_;cbv;have hpi:=yF (p.getD i 0);have hqi:=yF (q.getD i 0);simp only[B] at hpi hqi;refine fY (σ:=Unit) (fun _=>⟨[(0,nat p),(1,nat q),(5,.osl 23 1 (fun _=>0) (fun _=>p.length+1)),(6,.int .u64 (fun _=>((c+(p.getD i 0).toNat+(q.getD i 0).toNat:Nat):Int))),(7,.int .i64 (fun _=>(i:Int))),(24,nat p),(25,.int .i64 (fun _=>(p.length:Int))),(26,.int .i64 (fun _=>(i:Int)))],[(23,.arr 1 (fun _=>lm out))]⟩) (fun _=>True) (fun h6=>?_) (fun h6=>?_) ?_
  ·cbv;refine y6 i om om ?_;cbv;refine⟨(),trivial,.le ?_ ?_ rfl⟩
   ·cbv;refine⟨lR,lR,lR,zC ?_,lR,lR,lR,lR,trivial⟩
    (try dsimp only [zJ] at *)
    simp only[wP];omega
   {cbv;exact⟨zB rfl,trivial⟩}
  ·cbv;refine⟨(),trivial,.le ?_ ?_ rfl⟩
   ·cbv;refine⟨lR,lR,lR,zC ?_,lR,lR,lR,lR,trivial⟩;have:(q.getD i 0).toNat=0:=by have:q.length<=i:=om;simp[List.getElem?_eq_none this]
    (try dsimp only [zJ] at *)
    simp only[wP];omega
   {cbv;exact⟨zB rfl,trivial⟩}
  intro _ _;generalize hd:c+(p.getD i 0).toNat+(q.getD i 0).toNat=d;cbv;refine⟨zS om om,qG i (by simp) om ?_⟩;cbv;refine⟨wN (by omega),zD om om,(i+1,d/B,out.set i (UInt32.ofNat d)),⟨om,?_,by simpa using h3,?_⟩,om,.le ?_ ?_ rfl⟩;{show d/B<2;simp only[B];omega}
  ·(show val ((out.set i (UInt32.ofNat d)).take (i+1))+B^(i+1)*(d/B)=val (p.take (i+1))+val (q.take (i+1));rw[w6 _ om,zR p,zR q,xD];have e1:B^i*(d%B)+B^(i+1)*(d/B)=B^i*d:=by rw[Nat.pow_succ,Nat.mul_assoc,<-Nat.mul_add,Nat.mod_add_div]);have e2:B^i*d=B^i*c+B^i*(p.getD i 0).toNat+B^i*(q.getD i 0).toNat:=by rw[<-hd,Nat.mul_add,Nat.mul_add]
   omega
  {cbv;refine⟨lR,lR,lR,zC (fR d),lR,lR,zC om,trivial⟩};{cbv;exact⟨zB (kP out (by simp) d),trivial⟩}
 {cbv;refine⟨zS om om,qG p.length (by simp[zG]) om ?_⟩;cbv;have hi:i=p.length:=om;subst hi;refine jH (.trans (.le (ps':=⟨[(60,.osl 23 1 (fun _=>0) (fun _=>p.length+1))],[(23,.arr 1 (fun _=>lm (out.set p.length (UInt32.ofNat c))))]⟩) ?_ ?_ rfl) (.frz 23 rfl rfl ?_ ?_)) rfl (by refine⟨zX ?_,trivial⟩;exact List.take_of_length_le (by simp[zG] <;> omega)) (jZ (out.set p.length (UInt32.ofNat c)) (by simp;omega)) rfl ?_;{cbv;exact okA};{cbv;exact⟨zB (kP out (by simp[zG]) c),trivial⟩};{cbv;exact⟨yM (by simp[zG];omega),trivial⟩};{exact trivial};cbv;refine uZ rfl ?_ rfl;refine zX ?_;congr 2;have e:=w6 out (n:=p.length) (by omega) (UInt32.ofNat c);rw[List.take_of_length_le (by simp;omega),xD,Nat.mod_eq_of_lt (show c<B by simp only[B];omega),h4,List.take_of_length_le (Nat.le_refl _),List.take_of_length_le hpq] at e;omega}
theorem kO (out:List UInt32){k j:Nat}(hk:k=j){z:Int}{w:Nat}(hz:z=(w:Int))(hw:w<B):(lm out).set k [.int .u32 z]=lm (out.set j (UInt32.ofNat w)):=by subst hk hz;rw[<-zLA,xD,Nat.mod_eq_of_lt hw]
theorem zLC (z:Int):ishr .u64 z 63=z/9223372036854775808:=by unfold ishr;simp[IntKind.bits,Int.fdiv_eq_ediv_of_nonneg]
theorem s222 (a b:List UInt32)(ha:a.length<2^40)(hb:b.length<2^40):zH 177 [nat a,nat b] (.tup [nat (zE (val a-val b)),.int .i64 (fun _=>if val b<=val a then 0 else 2)]):=by
 refine sF Tryz.f177 ?_;cbv;refine cA (jZ a (by omega)) ?_;cbv;refine cA (jZ b (by omega)) ?_;cbv;have ha':=Nat.lt_of_le_of_lt (zU a) ha;have hb':=Nat.lt_of_le_of_lt (zU b) hb;refine cA (s162 _ _ ha' hb') ?_;cbv;simp only[zM];refine zF (fun h=>?_) (fun h=>?_)
 ·(have h':val a<val b:=by rcases Nat.lt_trichotomy (val a) (val b) with h1|h1|h1;{exact h1};{rw[h1,zB3] at h;omega};{rw[lI h1] at h;omega});cbv;refine uZ rfl ?_ rfl;refine⟨zO ?_,zC ?_,trivial⟩;{rw[Nat.sub_eq_zero_of_le (by omega),z6];rfl};{rw[if_neg (by omega)]}
 have hle:val b<=val a:=by rcases Nat.lt_or_ge (val a) (val b) with h1|h1;{rw[lH h1] at h;omega};{exact h1}
 have hv:val (zE (val a))=val a:=zM _;have hv2:val (zE (val b))=val b:=zM _;have hpq:(zE (val b)).length<=(zE (val a)).length:=by rcases Nat.lt_or_ge (zE (val a)).length (zE (val b)).length with h1|h1;{have:=tV h1;omega};{exact h1}
 generalize zE (val a)=p at *
 generalize zE (val b)=q at *
 cbv;refine⟨yR om om,wL om om,?_⟩;cbv;refine z9 (σ:=Nat×Nat×List UInt32) (fun s=>⟨[(0,nat p),(1,nat q),(6,.osl 21 1 (fun _=>0) (fun _=>p.length)),(7,.int .u64 (fun _=>(s.2.1:Int))),(22,nat p),(23,.int .i64 (fun _=>(p.length:Int))),(24,.int .i64 (fun _=>(s.1:Int)))],[(21,.arr 1 (fun _=>lm s.2.2))]⟩)
  (fun s=>s.1<=p.length/\s.2.1<2/\s.2.2.length=p.length/\val (s.2.2.take s.1)+val (q.take s.1)=val (p.take s.1)+B^s.1*s.2.1) (fun s=>p.length-s.1)
  (0,0,List.replicate p.length 0) ⟨om,om,by simp,by simp[val]⟩ (.le ?_ ?_ rfl) ?_
 {cbv;exact⟨lR,lR,yB rfl om,lR,lR,zC om,lR,trivial⟩}
 ·(cbv;refine⟨zB ?_,trivial⟩;show List.replicate (((lm p).length:Int)).toNat _=_;have:(((lm p).length:Int)).toNat=p.length:=by rw[zG];omega);rw[this]
  simp[lm,x4,toD]
 intro s hs;obtain⟨h1,h2,h3,h4⟩:=hs;generalize s.1=i at *
 generalize s.2.1=c at *
 generalize s.2.2=out at *
 cbv;refine zF (fun h5=>?_) (fun h5=>?_)
 ·cbv;refine y6 i om om ?_;cbv;have hpi:=yF (p.getD i 0);have hqi:=yF (q.getD i 0);simp only[B] at hpi hqi;refine fY (σ:=Unit) (fun _=>⟨[(0,nat p),(1,nat q),(6,.osl 21 1 (fun _=>0) (fun _=>p.length)),(10,.int .u64 (fun _=>nx .u64 (((p.getD i 0).toNat:Int)-(c:Int)-((q.getD i 0).toNat:Int)))),(8,.int .i64 (fun _=>(i:Int))),(22,nat p),(23,.int .i64 (fun _=>(p.length:Int))),(24,.int .i64 (fun _=>(i:Int)))],[(21,.arr 1 (fun _=>lm out))]⟩) (fun _=>True) (fun h6=>?_) (fun h6=>?_) ?_
  ·cbv;refine y6 i om om ?_;cbv;refine⟨(),trivial,.le ?_ ?_ rfl⟩
   ·cbv;refine⟨lR,lR,lR,zC ?_,lR,lR,lR,lR,trivial⟩
    (try dsimp only [zJ] at *)
    simp only[wP];omega
   {cbv;exact⟨zB rfl,trivial⟩}
  ·cbv;refine⟨(),trivial,.le ?_ ?_ rfl⟩
   ·cbv;refine⟨lR,lR,lR,zC ?_,lR,lR,lR,lR,trivial⟩;have:(q.getD i 0).toNat=0:=by have:q.length<=i:=om;simp[List.getElem?_eq_none this]
    (try dsimp only [zJ] at *)
    simp only[wP];omega
   {cbv;exact⟨zB rfl,trivial⟩}
  (intro _ _;obtain⟨w,c',hw,hc',he⟩:∃ w c':Nat,w<B/\c'<2/\(p.getD i 0).toNat+B*c'=w+c+(q.getD i 0).toNat:=by simp only[B];by_cases hlt:(p.getD i 0).toNat<c+(q.getD i 0).toNat;{exact⟨(p.getD i 0).toNat+4294967296-c-(q.getD i 0).toNat,1,by omega,by omega,by omega⟩};{exact⟨(p.getD i 0).toNat-c-(q.getD i 0).toNat,0,by omega,by omega,by omega⟩});have hz:nx .u64 (((p.getD i 0).toNat:Int)-(c:Int)-((q.getD i 0).toNat:Int))=if c'=0 then (w:Int) else (w:Int)+18446744069414584320:=by
   rw[wP];simp only[B] at *
   split <;> omega
  simp only[hz];cbv;refine⟨zS om om,qG i (by simp) om ?_⟩;cbv;refine⟨wN (by omega),zD om om,(i+1,c',out.set i (UInt32.ofNat w)),⟨om,hc',by simpa using h3,?_⟩,om,.le ?_ ?_ rfl⟩
  ·(show val ((out.set i (UInt32.ofNat w)).take (i+1))+val (q.take (i+1))=val (p.take (i+1))+B^(i+1)*c';rw[w6 _ om,zR p,zR q,xD,Nat.mod_eq_of_lt hw];have e1:B^i*(p.getD i 0).toNat+B^(i+1)*c'=B^i*w+B^i*c+B^i*(q.getD i 0).toNat:=by rw[Nat.pow_succ,Nat.mul_assoc,<-Nat.mul_add,he,Nat.mul_add,Nat.mul_add]);omega
  {cbv;refine⟨lR,lR,lR,zC ?_,lR,lR,zC om,trivial⟩;rw[zLC];show (if c'=0 then (w:Int) else (w:Int)+18446744069414584320)/9223372036854775808=(c':Int);simp only[B] at hw;split <;> omega};{cbv;refine⟨zB (kO out (by simp) ?_ hw),trivial⟩;show nx .u32 (if c'=0 then (w:Int) else (w:Int)+18446744069414584320)=(w:Int);rw[qY];simp only[B] at hw;split <;> omega}
 ·cbv;have hi:i=p.length:=om;subst hi;refine jH (.trans (.le (ps':=⟨[(52,.osl 21 1 (fun _=>0) (fun _=>p.length))],[(21,.arr 1 (fun _=>lm out))]⟩) ?_ ?_ rfl) (.frz 21 rfl rfl ?_ ?_)) rfl (by refine⟨zX ?_,trivial⟩;exact List.take_of_length_le (by simp[zG] <;> omega)) (jZ out (by omega)) rfl ?_;{cbv;exact okA};{cbv;exact⟨zB rfl,trivial⟩};{cbv;exact⟨yM (by simp[zG] <;> omega),trivial⟩};{exact trivial};cbv;refine uZ rfl ?_ rfl;rw[List.take_of_length_le (by omega),List.take_of_length_le hpq,List.take_of_length_le (Nat.le_refl _)] at h4;have hlo:=xH out;have hlq:=xH q;have hc0:c=0:=by
   rcases Nat.eq_zero_or_pos c with h6|h6;{exact h6}
   ·(exfalso;have:c=1:=by omega);subst this
    rw[h3] at hlo;omega
  subst hc0;refine⟨zX ?_,zC ?_,trivial⟩;{congr 2;omega};{rw[if_pos hle]}
theorem xI {n:Nat}(h:n<18446744073709551616):nx .u64 (n:Int)=(n:Int):=by rw[wP];omega
theorem s194 (a b:List UInt32)(ha:a.length<2^40)(hb:b.length<2^40):zH 139 [nat a,nat b] (nat (zE (val a*val b))):=by
 refine sF Tryz.f139 ?_;cbv;refine cA (jZ a (by omega)) ?_;cbv;refine cA (jZ b (by omega)) ?_;cbv;have ha':=Nat.lt_of_le_of_lt (zU a) ha;have hb':=Nat.lt_of_le_of_lt (zU b) hb;have hv:val (zE (val a))=val a:=zM _;have hv2:val (zE (val b))=val b:=zM _;generalize zE (val a)=p at *
 generalize zE (val b)=q at *
 
 refine yO (fun h=>?_) (fun h=>?_);{cbv;refine uZ rfl ?_ rfl;refine zO ?_;have:p=[]:=List.eq_nil_of_length_eq_zero om;subst this;rw[<-hv];simp[val,z6,lm]};cbv;refine zF (fun h'=>?_) (fun h'=>?_);{cbv;refine uZ rfl ?_ rfl;refine zO ?_;have:q=[]:=List.eq_nil_of_length_eq_zero om;subst this;rw[<-hv2];simp[val,z6,lm]};cbv;refine⟨zD om om,yR om om,wL om om,?_⟩;cbv;refine z9 (σ:=Nat×List UInt32) (fun s=>⟨[(0,nat p),(1,nat q),(5,.osl 28 1 (fun _=>0) (fun _=>p.length+q.length)),(29,nat p),(30,.int .i64 (fun _=>(p.length:Int))),(31,.int .i64 (fun _=>(s.1:Int)))],[(28,.arr 1 (fun _=>lm s.2))]⟩)
  (fun s=>s.1<=p.length/\s.2.length=p.length+q.length/\val s.2=val (p.take s.1)*val q/\∀ j,s.1+q.length<=j->s.2.getD j 0=0) (fun s=>p.length-s.1)
  (0,List.replicate (p.length+q.length) 0) ⟨om,by simp,by simp[val,kJ],fun j _=>by simp only[List.getD_eq_getElem?_getD,List.getElem?_replicate];split <;> rfl⟩ (.le ?_ ?_ rfl) ?_
 {cbv;exact⟨lR,lR,yB rfl om,lR,zC om,lR,trivial⟩}
 ·(cbv;refine⟨zB ?_,trivial⟩;show List.replicate (((lm p).length:Int)+((lm q).length:Int)).toNat _=_;have:(((lm p).length:Int)+((lm q).length:Int)).toNat=p.length+q.length:=by rw[zG,zG];omega);rw[this]
  simp[lm,x4,toD]
 intro s hs;obtain⟨h1,h2,h3,h4⟩:=hs;generalize s.1=i at *
 generalize s.2=out at *
 cbv;refine zF (fun h5=>?_) (fun h5=>?_)
 ·cbv;refine y6 i om om ?_;cbv;have hx:=yF (p.getD i 0);generalize hpx:(p.getD i 0).toNat=x at *
  refine z9 (σ:=Nat×Nat×List UInt32) (fun s=>⟨[(0,nat p),(1,nat q),(5,.osl 28 1 (fun _=>0) (fun _=>p.length+q.length)),(29,nat p),(30,.int .i64 (fun _=>(p.length:Int))),(31,.int .i64 (fun _=>(i:Int))),(6,.int .i64 (fun _=>(i:Int))),(7,.int .u32 (fun _=>(x:Int))),(8,.int .u64 (fun _=>(s.2.1:Int))),(36,nat q),(37,.int .i64 (fun _=>(q.length:Int))),(38,.int .i64 (fun _=>(s.1:Int)))],[(28,.arr 1 (fun _=>lm s.2.2))]⟩)
   (fun s=>s.1<=q.length/\s.2.1<B/\s.2.2.length=p.length+q.length/\val s.2.2+B^(i+s.1)*s.2.1=val (p.take i)*val q+B^i*(x*val (q.take s.1))/\∀ j,i+q.length<=j->s.2.2.getD j 0=0) (fun s=>q.length-s.1)
   (0,0,out) ⟨om,xO,h2,by simp[val,h3],h4⟩ (.le ?_ ?_ rfl) ?_
  {cbv;exact⟨lR,lR,lR,lR,lR,lR,lR,lR,lR,lR,zC om,lR,trivial⟩};{cbv;exact⟨zB rfl,trivial⟩};intro s hs;obtain⟨g1,g2,g3,g4,g5⟩:=hs;generalize s.1=k at *
  generalize s.2.1=c at *
  generalize s.2.2=out' at *
  cbv;refine zF (fun h6=>?_) (fun h6=>?_)
  ·(cbv;refine y6 k om om ?_;cbv;have hik:0+((i:Int)+(k:Int)).toNat=i+k:=by omega);refine⟨zD om om,zS om om,qG (i+k) hik om ?_⟩
   cbv;refine⟨zD om om,zS om om,qG (i+k) hik om ?_⟩;cbv;have hy:=yF (q.getD k 0);have ho:=yF (out'.getD (i+k) 0);have hset:=f7 out' (j:=i+k) om (UInt32.ofNat (c+(x*(q.getD k 0).toNat+(out'.getD (i+k) 0).toNat)));have htk:=zR q k;generalize hqy:(q.getD k 0).toNat=y at *
   generalize hoo:(out'.getD (i+k) 0).toNat=o at *
   (have hm:x*y<=4294967295*4294967295:=Nat.mul_le_mul (by simp only[B] at hx;omega) (by simp only[B] at hy;omega);have hB:B=4294967296:=rfl;have hT:nx .u64 ((c:Int)+nx .u64 (nx .u64 (nx .u64 (x:Int)*nx .u64 (y:Int))+nx .u64 (o:Int)))=((c+(x*y+o):Nat):Int):=by rw[xI (n:=x) (by omega),xI (n:=y) (by omega),xI (n:=o) (by omega),<-Int.natCast_mul,xI (n:=x*y) (by omega),<-Int.natCast_add,xI (n:=x*y+o) (by omega),<-Int.natCast_add,xI (by omega)]);refine⟨wN (by omega),zD om om,(k+1,(c+(x*y+o))/B,out'.set (i+k) (UInt32.ofNat (c+(x*y+o)))),⟨om,?_,by simpa using g3,?_,?_⟩,om,.le ?_ ?_ rfl⟩
   {show (c+(x*y+o))/B<B;exact Nat.div_lt_of_lt_mul (by have:B*B=18446744073709551616:=rfl;omega)}
   ·show val (out'.set (i+k) (UInt32.ofNat (c+(x*y+o))))+B^(i+(k+1))*((c+(x*y+o))/B)=val (p.take i)*val q+B^i*(x*val (q.take (k+1)));rw[htk];rw[xD] at hset;have e0:∀ t,B^(i+k)*(t%B)+B^(i+(k+1))*(t/B)=B^(i+k)*t:=by
     (intro t;have:i+(k+1)=(i+k)+1:=by omega);rw[this,Nat.pow_succ,Nat.mul_assoc,<-Nat.mul_add,Nat.mod_add_div]
    (have e1:=e0 (c+(x*y+o));have e3:B^(i+k)*(c+(x*y+o))=B^(i+k)*c+B^(i+k)*(x*y)+B^(i+k)*o:=by rw[Nat.mul_add,Nat.mul_add];omega);have e2:B^i*(x*(val (q.take k)+B^k*y))=B^i*(x*val (q.take k))+B^(i+k)*(x*y):=by rw[Nat.mul_add,Nat.mul_add,Nat.pow_add];congr 1;rw[Nat.mul_left_comm x,Nat.mul_assoc]
    omega
   {intro j hj;show (out'.set (i+k) _).getD j 0=0;rw[fS _ _ _ _ om];exact g5 j hj};{cbv;refine⟨lR,lR,lR,lR,lR,lR,lR,lR,zC ?_,lR,lR,zC om,trivial⟩;exact (congrArg (fun z=>ishr .u64 z 32) hT).trans (fR _)};{cbv;refine⟨zB ?_,trivial⟩;exact (congrArg (fun z=>(lm out').set (0+((i:Int)+(k:Int)).toNat) [.int .u32 (nx .u32 z)]) hT).trans (kP out' hik _)}
  ·(cbv;have hkq:k=q.length:=om;subst hkq;have hlq:0+((i:Int)+((lm q).length:Int)).toNat=i+q.length:=by rw[zG];omega);refine⟨zD om om,zS om om,qG (i+q.length) hlq om ?_⟩
   cbv;refine⟨zD om om,(i+1,out'.set (i+q.length) (UInt32.ofNat c)),⟨om,by simpa using g3,?_,?_⟩,om,.le ?_ ?_ rfl⟩;{show val (out'.set (i+q.length) (UInt32.ofNat c))=val (p.take (i+1))*val q;have hset:=f7 out' (j:=i+q.length) om (UInt32.ofNat c);rw[g5 _ (Nat.le_refl _),xD,Nat.mod_eq_of_lt g2] at hset;rw[List.take_of_length_le (Nat.le_refl _)] at g4;rw[zR p,hpx,Nat.add_mul,Nat.mul_assoc];simp only[UInt32.toNat_zero,Nat.mul_zero,Nat.add_zero] at hset;omega};{intro j hj;show (out'.set (i+q.length) _).getD j 0=0;have hj':i+1+q.length<=j:=hj;rw[fS _ _ _ _ (by omega)];exact g5 j (by omega)};{cbv;exact⟨lR,lR,lR,lR,lR,zC om,trivial⟩};{cbv;exact⟨zB (kP out' hlq c),trivial⟩}
 {cbv;have hip:i=p.length:=om;subst hip;refine jH (.trans (.le (ps':=⟨[(77,.osl 28 1 (fun _=>0) (fun _=>p.length+q.length))],[(28,.arr 1 (fun _=>lm out))]⟩) ?_ ?_ rfl) (.frz 28 rfl rfl ?_ ?_)) rfl (by refine⟨zX ?_,trivial⟩;exact List.take_of_length_le (by simp[zG] <;> omega)) (jZ out (by omega)) rfl ?_;{cbv;exact okA};{cbv;exact⟨zB rfl,trivial⟩};{cbv;exact⟨yM (by simp[zG] <;> omega),trivial⟩};{exact trivial};cbv;refine uZ rfl ?_ rfl;rw[List.take_of_length_le (Nat.le_refl _)] at h3;refine zX ?_;rw[h3,hv,hv2]}
end Go.Proofs.YtfainocfaddbdaaGreat
