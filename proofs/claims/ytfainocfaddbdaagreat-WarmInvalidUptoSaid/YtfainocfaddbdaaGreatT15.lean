/- A part of the proof: PnA, NtA, NtB, NtC, NtD. -/
import Derived.Test.YtfainocfaddbdaaGreatT14
set_option linter.all false
namespace Go.Proofs.YtfainocfaddbdaaGreat
def B:Nat:=4294967296
theorem xN:0<B:=by decide
theorem yD (x:UInt32):x.toNat<B:=x.toNat_lt
def val:List UInt32->Nat
 |[]=>0| x::r=>x.toNat+B*val r
def zD (n:Nat):List UInt32 :=
 if h:n=0 then [] else UInt32.ofNat (n%B)::zD (n/B)
termination_by n
decreasing_by exact Nat.div_lt_self (by omega) (by decide)
theorem z6:zD 0=[]:=by rw[zD];simp
theorem gJ {n:Nat}(h:n≠0):zD n=UInt32.ofNat (n%B)::zD (n/B):=by rw[zD];simp[h]
theorem gH (n:Nat):(UInt32.ofNat (n%B)).toNat=n%B:=by rw[UInt32.toNat_ofNat'];exact Nat.mod_eq_of_lt (Nat.mod_lt _ xN)
theorem zK (n:Nat):val (zD n)=n:=by
 induction n using Nat.strongRecOn with
 |_ n ih =>
  by_cases h:n=0;{subst h;rw[z6];rfl};{rw[gJ h,val,gH,ih (n/B) (Nat.div_lt_self (by omega) (by decide))];exact Nat.mod_add_div n B}
theorem wD:∀ (a b:List UInt32),val (a++b)=val a+B^a.length*val b
 |[],b=>by simp[val]| x::a,b=>by simp only[List.cons_append,val,List.length_cons,wD a b];rw[Nat.mul_add,Nat.pow_succ,<-Nat.mul_assoc,Nat.mul_comm B (B^a.length)];omega
theorem xE:∀ (l:List UInt32),val l<B^l.length
 |[]=>by simp[val]| x::r=>by have h1:=xE r;have h2:=yD x;have h3:B*(val r+1)<=B*B^r.length:=Nat.mul_le_mul_left _ h1;simp only[val,List.length_cons,Nat.pow_succ];rw[Nat.mul_comm (B^r.length) B];rw[Nat.mul_add] at h3;omega
def jZ:List UInt32->Bool
 |[]=>true| [x]=>x != 0| _::y::r=>jZ (y::r)
theorem eH (x:UInt32){r:List UInt32}(h:r≠[]):jZ (x::r)=jZ r:=by
 cases r with
 |nil=>exact absurd rfl h| cons y r=>rfl
theorem zAU:∀ {l:List UInt32},jZ l=true->l≠[]->0<val l
 |[],_,h=>absurd rfl h| [x],h,_=>by
  (have h1:x≠0:=by simpa[jZ] using h);have:x.toNat≠0:=fun e=>h1 (UInt32.toNat_inj.1 e)
  simp only[val];omega
 |x::y::r,h,_=>by have h1:=zAU (l:=y::r) h (by simp);have:B*1<=B*val (y::r):=Nat.mul_le_mul_left _ h1;have h2:(0:Nat)<B:=xN;show 0<x.toNat+B*val (y::r);omega
theorem aL:∀ {l:List UInt32},jZ l=true->zD (val l)=l
 |[],_=>by simp[val,z6]| x::r,h=>by
  (have hp:=zAU h (by simp);rw[gJ (by omega)];have hx:=yD x;have h1:val (x::r)%B=x.toNat:=by simp only[val];rw[Nat.add_mul_mod_self_left,Nat.mod_eq_of_lt hx]);have h2:val (x::r)/B=val r:=by simp only[val];rw[Nat.add_mul_div_left _ _ xN,Nat.div_eq_of_lt hx];omega
  rw[h1,h2];have hr:jZ r=true:=by
   cases r with
   |nil=>rfl| cons y r=>exact h
  rw[aL hr];congr 1;exact UInt32.toNat_inj.1 (by rw[UInt32.toNat_ofNat'];exact Nat.mod_eq_of_lt hx)
theorem f8 (n:Nat):jZ (zD n)=true:=by
 induction n using Nat.strongRecOn with
 |_ n ih =>
  by_cases h:n=0;{subst h;rw[z6];rfl}
  ·rw[gJ h];by_cases h2:n/B=0
   ·(rw[h2,z6];have hlt:n<B:=(Nat.div_eq_zero_iff_lt xN).1 h2;have:(UInt32.ofNat (n%B)).toNat≠0:=by rw[gH,Nat.mod_eq_of_lt hlt];exact h);simp only[jZ,bne_iff_ne,ne_eq]
    exact fun e=>this (by rw[e];rfl)
   {rw[eH _ (by rw[gJ h2];simp)];exact ih _ (Nat.div_lt_self (by omega) (by decide))}
theorem rE (l:List UInt32)(x:UInt32):jZ (l++[x])=(x != 0):=by
 induction l with
 |nil=>rfl| cons y l ih=>rw[List.cons_append,eH _ (by simp),ih]
theorem oH (l:List UInt32):val (l++[0])=val l:=by rw[wD];simp[val]
theorem nC:∀ {a b:List UInt32},a.length=b.length->val a=val b->a=b
 |[],[],_,_=>rfl| x::a,y::b,hl,hv=>by
  (simp only[val] at hv;have hx:=yD x;have hy:=yD y;have h1:x.toNat=y.toNat:=by have:=congrArg (· % B) hv;simp only[Nat.add_mul_mod_self_left,Nat.mod_eq_of_lt hx,Nat.mod_eq_of_lt hy] at this;exact this);have h2:val a=val b:=by rw[h1] at hv;exact Nat.eq_of_mul_eq_mul_left xN (Nat.add_left_cancel hv)
  rw[UInt32.toNat_inj.1 h1,nC (by simpa using hl) h2]
 |[],y::b,hl,_=>by simp at hl| x::a,[],hl,_=>by simp at hl
theorem z4 {n k:Nat}(h:n<B^k):(zD n).length<=k:=by
 induction k generalizing n with
 |zero =>
  (have:n=0:=by simpa using h);subst this
  rw[z6];simp
 |succ k ih =>
  by_cases h0:n=0;{subst h0;rw[z6];simp}
  ·(rw[gJ h0,List.length_cons];have:n/B<B^k:=by rw[Nat.div_lt_iff_lt_mul xN];rw[Nat.pow_succ] at h;exact h);have:=ih this;omega
theorem zT (l:List UInt32):(zD (val l)).length<=l.length:=z4 (xE l)
theorem nA {n k:Nat}(h:B^k<=n):k<(zD n).length:=by rcases Nat.lt_or_ge k (zD n).length with h'|h';{exact h'};{have h1:=xE (zD n);rw[zK] at h1;have:B^(zD n).length<=B^k:=Nat.pow_le_pow_right xN h';omega}
theorem xI {n:Nat}:zD n=[]↔n=0:=by constructor;{intro h;have:=zK n;rw[h] at this;exact this.symm};{intro h;subst h;exact z6}
theorem jC (l:List UInt32){n:Nat}(h:n<l.length):l.take (n+1)=l.take n++[l.getD n 0]:=by rw[List.take_add_one];simp[h]
theorem aA (l:List UInt32){m:Nat}(h:m<l.length):val l=val (l.take m)+B^m*((l.getD m 0).toNat+B*val (l.drop (m+1))):=by
 have e:l=l.take m++(l.getD m 0::l.drop (m+1)):=by
  (have:l.drop m=l.getD m 0::l.drop (m+1):=by rw[List.drop_eq_getElem_cons h];simp[h]);rw[<-this,List.take_append_drop]
 have hl:(l.take m).length=m:=by simp;omega
 calc val l=val (l.take m++(l.getD m 0::l.drop (m+1))):=by rw[<-e]
  _=_:=by rw[wD,hl];rfl
theorem xS (l:List UInt32)(m:Nat):val (l.take m)<B^m:=by
 have h1:=xE (l.take m);have h2:(l.take m).length<=m:=by simp;omega
 exact Nat.lt_of_lt_of_le h1 (Nat.pow_le_pow_right xN h2)
theorem zJ3 {a b:List UInt32}{m:Nat}(ha:m<a.length)(hb:m<b.length)(hd:a.drop (m+1)=b.drop (m+1))(h:(a.getD m 0).toNat<(b.getD m 0).toNat):val a<val b:=by
 rw[aA a ha,aA b hb,hd];have h1:=xS a m;have h2:(a.getD m 0).toNat+1+B*val (b.drop (m+1))<=(b.getD m 0).toNat+B*val (b.drop (m+1)):=by omega
 have h3:=Nat.mul_le_mul_left (B^m) h2;have h4:B^m*((a.getD m 0).toNat+1+B*val (b.drop (m+1)))=B^m*((a.getD m 0).toNat+B*val (b.drop (m+1)))+B^m:=by rw[Nat.add_right_comm,Nat.mul_add (B^m) _ 1,Nat.mul_one]
 omega
theorem p9 {n m:Nat}(h:(zD n).length<(zD m).length):n<m:=by have h1:=xE (zD n);rw[zK] at h1;rcases Nat.lt_or_ge n m with h'|h';{exact h'};{have h2:=z4 (Nat.lt_of_le_of_lt h' h1);omega}
def vJ (a b:Nat):Int:=if a<b then -1 else if b<a then 1 else 0
theorem nT {a b:Nat}(h:a<b):vJ a b=-1:=by simp[vJ,h]
theorem nU {a b:Nat}(h:b<a):vJ a b=1:=by simp[vJ,h,Nat.not_lt.2 (Nat.le_of_lt h)]
theorem zBH (a:Nat):vJ a a=0:=by simp[vJ]
theorem zB8 (l:List UInt32)(x:UInt32):val (l++[x])=val l+B^l.length*x.toNat:=by rw[wD];simp[val]
theorem a5 (l:List UInt32){n:Nat}(h:n<l.length):val (l.take (n+1))=val (l.take n)+B^n*(l.getD n 0).toNat:=by rw[jC l h,zB8];congr 3;simp;omega
theorem zR (l:List UInt32)(n:Nat):val (l.take (n+1))=val (l.take n)+B^n*(l.getD n 0).toNat:=by rcases Nat.lt_or_ge n l.length with h|h;{exact a5 l h};{rw[List.take_of_length_le (by omega),List.take_of_length_le h];simp[List.getElem?_eq_none h]}
theorem w7 (l:List UInt32){n:Nat}(h:n<l.length)(x:UInt32):val ((l.set n x).take (n+1))=val (l.take n)+B^n*x.toNat:=by rw[a5 _ (by simpa using h)];congr 2;{rw[List.take_set_of_le (Nat.le_refl _)]};{simp[h]}
theorem xB (n:Nat):(UInt32.ofNat n).toNat=n%B:=by rw[UInt32.toNat_ofNat'];rfl
theorem fT (l:List UInt32){j:Nat}(h:j<l.length)(x:UInt32):val (l.set j x)+B^j*(l.getD j 0).toNat=val l+B^j*x.toNat:=by
 have hs:j<(l.set j x).length:=by simpa using h
 rw[aA l h,aA (l.set j x) hs];have e1:(l.set j x).take j=l.take j:=List.take_set_of_le (Nat.le_refl _);have e2:(l.set j x).drop (j+1)=l.drop (j+1):=by rw[List.drop_set_of_lt (by omega)]
 have e3:(l.set j x).getD j 0=x:=by simp[h]
 rw[e1,e2,e3,Nat.mul_add,Nat.mul_add];omega
theorem kH (n:Nat):val (List.replicate n 0)=0:=by
 induction n with
 |zero=>rfl| succ n ih=>simp[List.replicate_succ,val,ih]
theorem fI (l:List UInt32)(j k:Nat)(x:UInt32)(h:j≠k):(l.set j x).getD k 0=l.getD k 0:=by simp[List.getElem?_set_ne h]
end Go.Proofs.YtfainocfaddbdaaGreat
namespace Go.Proofs.YtfainocfaddbdaaGreat
open Go
set_option maxRecDepth 100000
theorem jT (l:List UInt32)(hl:l.length<2^44):zM 160 [nat l] (nat (zD (val l))):=by
 refine sF Tryz.f160 ?_;cbv;refine yB (σ:=Nat) (fun n=>⟨[(0,nat l),(2,.nil),(3,.int .i64 (fun _=>(n:Int)))],[]⟩) (fun n=>n<=l.length/\val (l.take n)=val l) (fun n=>n) l.length ⟨Nat.le_refl _,by simp⟩ (.le ?_ trivial rfl) ?_;{cbv;exact⟨lR,lR,zC (by simp[zG]),trivial⟩};intro n hn;cbv;refine yG (fun h=>?_) (fun h=>?_)
 ·(try dsimp only [zJ] at *)
  obtain⟨m,rfl⟩:∃ m,n=m+1:=⟨n-1,by omega⟩;cbv;refine⟨zE om om,y5 m om om ?_⟩;cbv;refine zF (fun h2=>?_) (fun h2=>?_)
  ·cbv;refine⟨zE om om,m,⟨om,?_⟩,om,.le ?_ trivial rfl⟩
   ·(have e:l.getD m 0=0:=by have:(l.getD m 0).toNat=0:=om;exact UInt32.toNat_inj.1 this);rw[<-hn.2,jC l (by omega),e,oH]
   {cbv;exact⟨lR,lR,zC om,trivial⟩}
  ·(cbv;refine zF (fun h3=>om) (fun h3=>?_);cbv;refine⟨aD om om om,sY l,?_⟩;cbv;refine uI rfl ?_ rfl;refine zX ?_;have e:l.getD m 0≠0:=fun e=>by (try dsimp only [zJ] at *);rw[e] at h2;exact h2 rfl);simp only[zFX,zFY]
   rw[<-hn.2,aL (by rw[jC l (by omega),rE];simpa using e)];rfl
 {cbv;refine zF (fun h3=>?_) (fun h3=>om);cbv;refine uI rfl ?_ rfl;refine zN ?_;have:n=0:=om;subst this;rw[<-hn.2];simp[val,z6,lm]}
theorem ty34:ty 25=.sli 1 4 [.int .u32 (fun _=>0)]:=by cbv
theorem s230 (l:List UInt32)(hl:l.length<2^40):zM 168 [nat l] (nat l):=by refine sF Tryz.f168 ?_;cbv;refine⟨fun b hb=>?_⟩;cbv;refine z9 (fun h=>?_) (fun h=>?_);{cbv;refine uI rfl ?_ rfl;exact zN (hb h)};{cbv;refine wO ty34 rfl rfl rfl rfl rfl (sY l) (yJ om (by simp only[List.length_nil];(try dsimp only [zJ] at *) <;> (try simp only[zG] at *) <;> omega)) rfl ?_;cbv;refine retW (.frz 7 rfl rfl ?_ ?_) rfl ?_ rfl;{cbv;exact⟨yL (by simp),yL (by simp),trivial⟩};{exact trivial};{refine zX ?_;simp}}
theorem s223 (l:List UInt32)(hl:l.length<2^40):zM 162 [nat l] (nat (zD (val l))):=by refine sF Tryz.f162 ?_;cbv;refine cA (jT l (by omega)) ?_;cbv;refine cA (s230 _ (Nat.lt_of_le_of_lt (zT l) hl)) ?_;cbv;refine uI rfl ?_ rfl;exact lR
theorem cS {l:List UInt32}(h:l≠[]):jZ l=(l.getD (l.length-1) 0 != 0):=by
 have:l=l.dropLast++[l.getD (l.length-1) 0]:=by rw[List.getD_eq_getElem?_getD,<-List.getLast?_eq_getElem?,List.getLast?_eq_some_getLast h];exact (List.dropLast_concat_getLast h).symm
 rw[this,rE];simp
theorem zKL (x:UInt32):(x != 0)=!decide ((x.toNat:Int)=0):=by rw[Bool.eq_iff_iff];simp only[bne_iff_ne,ne_eq,Bool.not_eq_true',decide_eq_false_iff_not];constructor;{intro h e;exact h (UInt32.toNat_inj.1 (by simpa using e))};{intro h e;exact h (by rw[e];rfl)}
theorem s160 (l:List UInt32)(hl:l.length<2^40):zM 154 [nat l] (.bool (fun _=>jZ l)):=by
 refine sF Tryz.f154 ?_;cbv;refine yG (fun h=>?_) (fun h=>?_);{cbv;refine uI rfl ?_ rfl;refine zU ?_;have:l=[]:=List.eq_nil_of_length_eq_zero om;subst this;rfl}
 ·(cbv;refine⟨zE om om,y5 (l.length-1) om om ?_⟩;cbv;refine uI rfl ?_ rfl;refine kM ?_;have hne:l≠[]:=fun e=>by subst e;exact h rfl);rw[cS hne]
  exact zKL _
theorem s211 (x:Nat)(hx:x<B*B):zM 142 [.int .u64 (fun _=>(x:Int))] (nat (zD x)):=by
 refine sF Tryz.f142 ?_;cbv;refine⟨wP (by omega),?_⟩;refine wA rfl (by
  (refine⟨zX ?_,trivial⟩;have h1:ishr .u64 (x:Int) 32=((x/B:Nat):Int):=by unfold ishr;simp[IntKind.bits,B,Int.fdiv_eq_ediv_of_nonneg]);have h2:x/B<B:=Nat.div_lt_of_lt_mul hx;simp only[yV,xM,toD,lm,List.map_cons,List.map_nil,zJ,h1,qY,gH];rw[UInt32.toNat_ofNat',Nat.mod_eq_of_lt (show x/B<2^32 from h2)];simp only[B] at *
  congr 3
  ·congr 1;omega) (jT [UInt32.ofNat (x%B),UInt32.ofNat (x/B)] (by simp)) rfl ?_
 cbv;refine uI rfl ?_ rfl;refine zX ?_;have h2:x/B<B:=Nat.div_lt_of_lt_mul hx;have:val [UInt32.ofNat (x%B),UInt32.ofNat (x/B)]=x:=by simp only[val,gH];rw[UInt32.toNat_ofNat',Nat.mod_eq_of_lt (show x/B<2^32 from h2),Nat.mul_zero,Nat.add_zero];exact Nat.mod_add_div x B
 rw[this]
theorem s162 (a b:List UInt32)(ha:a.length<2^40)(hb:b.length<2^40):zM 156 [nat a,nat b] (.int .i64 (fun _=>vJ (val a) (val b))):=by
 refine sF Tryz.f156 ?_;cbv;refine cA (jT a (by omega)) ?_;cbv;refine cA (jT b (by omega)) ?_;cbv;have ha':=Nat.lt_of_le_of_lt (zT a) ha;have hb':=Nat.lt_of_le_of_lt (zT b) hb;refine zF (fun h=>?_) (fun h=>?_)
 ·cbv;have hl:(zD (val a)).length=(zD (val b)).length:=om;refine⟨zE om om,?_⟩;refine yB (σ:=Nat) (fun n=>⟨[(0,nat (zD (val a))),(1,nat (zD (val b))),(5,.int .i64 (fun _=>(n:Int)-1))],[]⟩) (fun n=>n<=(zD (val a)).length/\(zD (val a)).drop n=(zD (val b)).drop n) (fun n=>n) (zD (val a)).length ⟨Nat.le_refl _,by simp[hl]⟩ (.le ?_ trivial rfl) ?_;{cbv;exact⟨lR,lR,zC om,trivial⟩};intro n hn;cbv;refine zF (fun h2=>?_) (fun h2=>?_)
  ·(try dsimp only [zJ] at *)
   obtain⟨m,rfl⟩:∃ m,n=m+1:=⟨n-1,by omega⟩;cbv;refine zZ 9 (by cbv) ?_;cbv;refine y5 m om om ?_;cbv;refine y5 m om om ?_;cbv;refine zF (fun h3=>?_) (fun h3=>?_)
   ·cbv;refine⟨zE om om,m,⟨om,?_⟩,om,.le ?_ trivial rfl⟩
    ·(try dsimp only [zJ] at *)
     have e:(zD (val a)).getD m 0=(zD (val b)).getD m 0:=UInt32.toNat_inj.1 (by omega);rw[List.drop_eq_getElem_cons (by omega:m<(zD (val a)).length),List.drop_eq_getElem_cons (by omega:m<(zD (val b)).length),hn.2];congr 1;simpa[show m<(zD (val a)).length by omega,show m<(zD (val b)).length by omega] using e
    {cbv;exact⟨lR,lR,zC om,trivial⟩}
   {cbv;refine zZ 9 (by cbv) ?_;cbv;refine y5 m om om ?_;cbv;refine y5 m om om ?_;cbv;refine zF (fun h4=>?_) (fun h4=>?_);{cbv;refine uI rfl ?_ rfl;refine zC ?_;have:=zJ3 (a:=zD (val a)) (b:=zD (val b)) (m:=m) om om hn.2 om;rw[zK,zK] at this;rw[nT this]};{cbv;refine uI rfl ?_ rfl;refine zC ?_;have:=zJ3 (a:=zD (val b)) (b:=zD (val a)) (m:=m) om om hn.2.symm om;rw[zK,zK] at this;rw[nU this]}}
  ·(cbv;refine uI rfl ?_ rfl;refine zC ?_;have h0:n=0:=om;subst h0;have e:zD (val a)=zD (val b):=by simpa using hn.2);have:val a=val b:=by rw[<-zK (val a),e,zK]
   rw[this,zBH]
 {cbv;refine zF (fun h2=>?_) (fun h2=>?_);{cbv;refine uI rfl ?_ rfl;refine zC ?_;rw[nT (p9 om)]};{cbv;refine uI rfl ?_ rfl;refine zC ?_;rw[nU (p9 om)]}}
theorem zJU (l:List UInt32)(i:Nat)(x:UInt32):(lm l).set i [.int .u32 x.toNat]=lm (l.set i x):=by simp[lm,List.map_set]
theorem fH (n:Nat):ishr .u64 (n:Int) 32=((n/B:Nat):Int):=by unfold ishr;simp[IntKind.bits,B,Int.fdiv_eq_ediv_of_nonneg]
theorem kL (out:List UInt32){k j:Nat}(hk:k=j)(d:Nat):(lm out).set k [.int .u32 (nx .u32 ((d:Nat):Int))]=lm (out.set j (UInt32.ofNat d)):=by subst hk;rw[<-zJU,xB,qY];simp[B]
theorem s221 (a b:List UInt32)(ha:a.length<2^40)(hb:b.length<2^40):zM 176 [nat a,nat b] (nat (zD (val a+val b))):=by
 refine sF Tryz.f176 ?_;cbv;refine cA (jT a (by omega)) ?_;cbv;refine cA (jT b (by omega)) ?_;cbv;have ha':=Nat.lt_of_le_of_lt (zT a) ha;have hb':=Nat.lt_of_le_of_lt (zT b) hb;refine fN (σ:=List UInt32×List UInt32) (fun s=>⟨[(0,nat s.1),(1,nat s.2),(4,.nil)],[]⟩) (fun s=>s.2.length<=s.1.length/\s.1.length<2^40/\val s.1+val s.2=val a+val b) (fun h=>?_) (fun h=>?_) ?_;{cbv;refine⟨(zD (val b),zD (val a)),⟨om,hb',by simp only[zK];omega⟩,.le ?_ trivial rfl⟩;cbv;exact okA};{cbv;refine⟨(zD (val a),zD (val b)),⟨om,ha',by simp only[zK]⟩,.le ?_ trivial rfl⟩;cbv;exact okA};intro s hs;obtain⟨hpq,hp,hv⟩:=hs;generalize s.1=p at *
 generalize s.2=q at *
 cbv;refine⟨zE om om,yJ om om,wM om om,?_⟩;cbv;refine yB (σ:=Nat×Nat×List UInt32) (fun s=>⟨[(0,nat p),(1,nat q),(5,.osl 23 1 (fun _=>0) (fun _=>p.length+1)),(6,.int .u64 (fun _=>(s.2.1:Int))),(24,nat p),(25,.int .i64 (fun _=>(p.length:Int))),(26,.int .i64 (fun _=>(s.1:Int)))],[(23,.arr 1 (fun _=>lm s.2.2))]⟩)
  (fun s=>s.1<=p.length/\s.2.1<2/\s.2.2.length=p.length+1/\val (s.2.2.take s.1)+B^s.1*s.2.1=val (p.take s.1)+val (q.take s.1)) (fun s=>p.length-s.1)
  (0,0,List.replicate (p.length+1) 0) ⟨om,om,by simp,by simp[val]⟩ (.le ?_ ?_ rfl) ?_
 {cbv;exact⟨lR,lR,z5 rfl om,lR,lR,zC om,lR,trivial⟩}
 ·(cbv;refine⟨zA ?_,trivial⟩;show List.replicate (((lm p).length:Int)+1).toNat _=_;have:(((lm p).length:Int)+1).toNat=p.length+1:=by rw[zG];omega);rw[this]
  simp[lm,xM,toD]
 intro s hs;obtain⟨h1,h2,h3,h4⟩:=hs;generalize s.1=i at *
 generalize s.2.1=c at *
 generalize s.2.2=out at *
 cbv;refine zF (fun h5=>?_) (fun h5=>?_)
 ·cbv;refine y5 i om om ?_;cbv;have hpi:=yD (p.getD i 0);have hqi:=yD (q.getD i 0);simp only[B] at hpi hqi;refine fN (σ:=Unit) (fun _=>⟨[(0,nat p),(1,nat q),(5,.osl 23 1 (fun _=>0) (fun _=>p.length+1)),(6,.int .u64 (fun _=>((c+(p.getD i 0).toNat+(q.getD i 0).toNat:Nat):Int))),(7,.int .i64 (fun _=>(i:Int))),(24,nat p),(25,.int .i64 (fun _=>(p.length:Int))),(26,.int .i64 (fun _=>(i:Int)))],[(23,.arr 1 (fun _=>lm out))]⟩) (fun _=>True) (fun h6=>?_) (fun h6=>?_) ?_
  ·cbv;refine y5 i om om ?_;cbv;refine⟨(),trivial,.le ?_ ?_ rfl⟩
   ·cbv;refine⟨lR,lR,lR,zC ?_,lR,lR,lR,lR,trivial⟩
    (try dsimp only [zJ] at *)
    simp only[wT];omega
   {cbv;exact⟨zA rfl,trivial⟩}
  ·cbv;refine⟨(),trivial,.le ?_ ?_ rfl⟩
   ·cbv;refine⟨lR,lR,lR,zC ?_,lR,lR,lR,lR,trivial⟩;have:(q.getD i 0).toNat=0:=by have:q.length<=i:=om;simp[List.getElem?_eq_none this]
    (try dsimp only [zJ] at *)
    simp only[wT];omega
   {cbv;exact⟨zA rfl,trivial⟩}
  intro _ _;generalize hd:c+(p.getD i 0).toNat+(q.getD i 0).toNat=d;cbv;refine⟨zQ om om,qI i (by simp) om ?_⟩;cbv;refine⟨wP (by omega),zE om om,(i+1,d/B,out.set i (UInt32.ofNat d)),⟨om,?_,by simpa using h3,?_⟩,om,.le ?_ ?_ rfl⟩;{show d/B<2;simp only[B];omega}
  ·(show val ((out.set i (UInt32.ofNat d)).take (i+1))+B^(i+1)*(d/B)=val (p.take (i+1))+val (q.take (i+1));rw[w7 _ om,zR p,zR q,xB];have e1:B^i*(d%B)+B^(i+1)*(d/B)=B^i*d:=by rw[Nat.pow_succ,Nat.mul_assoc,<-Nat.mul_add,Nat.mod_add_div]);have e2:B^i*d=B^i*c+B^i*(p.getD i 0).toNat+B^i*(q.getD i 0).toNat:=by rw[<-hd,Nat.mul_add,Nat.mul_add]
   omega
  {cbv;refine⟨lR,lR,lR,zC (fH d),lR,lR,zC om,trivial⟩};{cbv;exact⟨zA (kL out (by simp) d),trivial⟩}
 {cbv;refine⟨zQ om om,qI p.length (by simp[zG]) om ?_⟩;cbv;have hi:i=p.length:=om;subst hi;refine fO (.trans (.le (ps':=⟨[(60,.osl 23 1 (fun _=>0) (fun _=>p.length+1))],[(23,.arr 1 (fun _=>lm (out.set p.length (UInt32.ofNat c))))]⟩) ?_ ?_ rfl) (.frz 23 rfl rfl ?_ ?_)) rfl (by refine⟨zX ?_,trivial⟩;exact List.take_of_length_le (by simp[zG] <;> omega)) (jT (out.set p.length (UInt32.ofNat c)) (by simp;omega)) rfl ?_;{cbv;exact okA};{cbv;exact⟨zA (kL out (by simp[zG]) c),trivial⟩};{cbv;exact⟨yL (by simp[zG];omega),trivial⟩};{exact trivial};cbv;refine uI rfl ?_ rfl;refine zX ?_;congr 2;have e:=w7 out (n:=p.length) (by omega) (UInt32.ofNat c);rw[List.take_of_length_le (by simp;omega),xB,Nat.mod_eq_of_lt (show c<B by simp only[B];omega),h4,List.take_of_length_le (Nat.le_refl _),List.take_of_length_le hpq] at e;omega}
theorem kK (out:List UInt32){k j:Nat}(hk:k=j){z:Int}{w:Nat}(hz:z=(w:Int))(hw:w<B):(lm out).set k [.int .u32 z]=lm (out.set j (UInt32.ofNat w)):=by subst hk hz;rw[<-zJU,xB,Nat.mod_eq_of_lt hw]
theorem zJW (z:Int):ishr .u64 z 63=z/9223372036854775808:=by unfold ishr;simp[IntKind.bits,Int.fdiv_eq_ediv_of_nonneg]
theorem s222 (a b:List UInt32)(ha:a.length<2^40)(hb:b.length<2^40):zM 177 [nat a,nat b] (.tup [nat (zD (val a-val b)),.int .i64 (fun _=>if val b<=val a then 0 else 2)]):=by
 refine sF Tryz.f177 ?_;cbv;refine cA (jT a (by omega)) ?_;cbv;refine cA (jT b (by omega)) ?_;cbv;have ha':=Nat.lt_of_le_of_lt (zT a) ha;have hb':=Nat.lt_of_le_of_lt (zT b) hb;refine cA (s162 _ _ ha' hb') ?_;cbv;simp only[zK];refine zF (fun h=>?_) (fun h=>?_)
 ·(have h':val a<val b:=by rcases Nat.lt_trichotomy (val a) (val b) with h1|h1|h1;{exact h1};{rw[h1,zBH] at h;omega};{rw[nU h1] at h;omega});cbv;refine uI rfl ?_ rfl;refine⟨zN ?_,zC ?_,trivial⟩;{rw[Nat.sub_eq_zero_of_le (by omega),z6];rfl};{rw[if_neg (by omega)]}
 have hle:val b<=val a:=by rcases Nat.lt_or_ge (val a) (val b) with h1|h1;{rw[nT h1] at h;omega};{exact h1}
 have hv:val (zD (val a))=val a:=zK _;have hv2:val (zD (val b))=val b:=zK _;have hpq:(zD (val b)).length<=(zD (val a)).length:=by rcases Nat.lt_or_ge (zD (val a)).length (zD (val b)).length with h1|h1;{have:=p9 h1;omega};{exact h1}
 generalize zD (val a)=p at *
 generalize zD (val b)=q at *
 cbv;refine⟨yJ om om,wM om om,?_⟩;cbv;refine yB (σ:=Nat×Nat×List UInt32) (fun s=>⟨[(0,nat p),(1,nat q),(6,.osl 21 1 (fun _=>0) (fun _=>p.length)),(7,.int .u64 (fun _=>(s.2.1:Int))),(22,nat p),(23,.int .i64 (fun _=>(p.length:Int))),(24,.int .i64 (fun _=>(s.1:Int)))],[(21,.arr 1 (fun _=>lm s.2.2))]⟩)
  (fun s=>s.1<=p.length/\s.2.1<2/\s.2.2.length=p.length/\val (s.2.2.take s.1)+val (q.take s.1)=val (p.take s.1)+B^s.1*s.2.1) (fun s=>p.length-s.1)
  (0,0,List.replicate p.length 0) ⟨om,om,by simp,by simp[val]⟩ (.le ?_ ?_ rfl) ?_
 {cbv;exact⟨lR,lR,z5 rfl om,lR,lR,zC om,lR,trivial⟩}
 ·(cbv;refine⟨zA ?_,trivial⟩;show List.replicate (((lm p).length:Int)).toNat _=_;have:(((lm p).length:Int)).toNat=p.length:=by rw[zG];omega);rw[this]
  simp[lm,xM,toD]
 intro s hs;obtain⟨h1,h2,h3,h4⟩:=hs;generalize s.1=i at *
 generalize s.2.1=c at *
 generalize s.2.2=out at *
 cbv;refine zF (fun h5=>?_) (fun h5=>?_)
 ·cbv;refine y5 i om om ?_;cbv;have hpi:=yD (p.getD i 0);have hqi:=yD (q.getD i 0);simp only[B] at hpi hqi;refine fN (σ:=Unit) (fun _=>⟨[(0,nat p),(1,nat q),(6,.osl 21 1 (fun _=>0) (fun _=>p.length)),(10,.int .u64 (fun _=>nx .u64 (((p.getD i 0).toNat:Int)-(c:Int)-((q.getD i 0).toNat:Int)))),(8,.int .i64 (fun _=>(i:Int))),(22,nat p),(23,.int .i64 (fun _=>(p.length:Int))),(24,.int .i64 (fun _=>(i:Int)))],[(21,.arr 1 (fun _=>lm out))]⟩) (fun _=>True) (fun h6=>?_) (fun h6=>?_) ?_
  ·cbv;refine y5 i om om ?_;cbv;refine⟨(),trivial,.le ?_ ?_ rfl⟩
   ·cbv;refine⟨lR,lR,lR,zC ?_,lR,lR,lR,lR,trivial⟩
    (try dsimp only [zJ] at *)
    simp only[wT];omega
   {cbv;exact⟨zA rfl,trivial⟩}
  ·cbv;refine⟨(),trivial,.le ?_ ?_ rfl⟩
   ·cbv;refine⟨lR,lR,lR,zC ?_,lR,lR,lR,lR,trivial⟩;have:(q.getD i 0).toNat=0:=by have:q.length<=i:=om;simp[List.getElem?_eq_none this]
    (try dsimp only [zJ] at *)
    simp only[wT];omega
   {cbv;exact⟨zA rfl,trivial⟩}
  (intro _ _;obtain⟨w,c',hw,hc',he⟩:∃ w c':Nat,w<B/\c'<2/\(p.getD i 0).toNat+B*c'=w+c+(q.getD i 0).toNat:=by simp only[B];by_cases hlt:(p.getD i 0).toNat<c+(q.getD i 0).toNat;{exact⟨(p.getD i 0).toNat+4294967296-c-(q.getD i 0).toNat,1,by omega,by omega,by omega⟩};{exact⟨(p.getD i 0).toNat-c-(q.getD i 0).toNat,0,by omega,by omega,by omega⟩});have hz:nx .u64 (((p.getD i 0).toNat:Int)-(c:Int)-((q.getD i 0).toNat:Int))=if c'=0 then (w:Int) else (w:Int)+18446744069414584320:=by
   rw[wT];simp only[B] at *
   split <;> omega
  simp only[hz];cbv;refine⟨zQ om om,qI i (by simp) om ?_⟩;cbv;refine⟨wP (by omega),zE om om,(i+1,c',out.set i (UInt32.ofNat w)),⟨om,hc',by simpa using h3,?_⟩,om,.le ?_ ?_ rfl⟩
  ·(show val ((out.set i (UInt32.ofNat w)).take (i+1))+val (q.take (i+1))=val (p.take (i+1))+B^(i+1)*c';rw[w7 _ om,zR p,zR q,xB,Nat.mod_eq_of_lt hw];have e1:B^i*(p.getD i 0).toNat+B^(i+1)*c'=B^i*w+B^i*c+B^i*(q.getD i 0).toNat:=by rw[Nat.pow_succ,Nat.mul_assoc,<-Nat.mul_add,he,Nat.mul_add,Nat.mul_add]);omega
  {cbv;refine⟨lR,lR,lR,zC ?_,lR,lR,zC om,trivial⟩;rw[zJW];show (if c'=0 then (w:Int) else (w:Int)+18446744069414584320)/9223372036854775808=(c':Int);simp only[B] at hw;split <;> omega};{cbv;refine⟨zA (kK out (by simp) ?_ hw),trivial⟩;show nx .u32 (if c'=0 then (w:Int) else (w:Int)+18446744069414584320)=(w:Int);rw[qY];simp only[B] at hw;split <;> omega}
 ·cbv;have hi:i=p.length:=om;subst hi;refine fO (.trans (.le (ps':=⟨[(52,.osl 21 1 (fun _=>0) (fun _=>p.length))],[(21,.arr 1 (fun _=>lm out))]⟩) ?_ ?_ rfl) (.frz 21 rfl rfl ?_ ?_)) rfl (by refine⟨zX ?_,trivial⟩;exact List.take_of_length_le (by simp[zG] <;> omega)) (jT out (by omega)) rfl ?_;{cbv;exact okA};{cbv;exact⟨zA rfl,trivial⟩};{cbv;exact⟨yL (by simp[zG] <;> omega),trivial⟩};{exact trivial};cbv;refine uI rfl ?_ rfl;rw[List.take_of_length_le (by omega),List.take_of_length_le hpq,List.take_of_length_le (Nat.le_refl _)] at h4;have hlo:=xE out;have hlq:=xE q;have hc0:c=0:=by
   rcases Nat.eq_zero_or_pos c with h6|h6;{exact h6}
   ·(exfalso;have:c=1:=by omega);subst this
    rw[h3] at hlo;omega
  subst hc0;refine⟨zX ?_,zC ?_,trivial⟩;{congr 2;omega};{rw[if_pos hle]}
theorem xG {n:Nat}(h:n<18446744073709551616):nx .u64 (n:Int)=(n:Int):=by rw[wT];omega
theorem s194 (a b:List UInt32)(ha:a.length<2^40)(hb:b.length<2^40):zM 139 [nat a,nat b] (nat (zD (val a*val b))):=by
 refine sF Tryz.f139 ?_;cbv;refine cA (jT a (by omega)) ?_;cbv;refine cA (jT b (by omega)) ?_;cbv;have ha':=Nat.lt_of_le_of_lt (zT a) ha;have hb':=Nat.lt_of_le_of_lt (zT b) hb;have hv:val (zD (val a))=val a:=zK _;have hv2:val (zD (val b))=val b:=zK _;generalize zD (val a)=p at *
 generalize zD (val b)=q at *
 
 refine yG (fun h=>?_) (fun h=>?_);{cbv;refine uI rfl ?_ rfl;refine zN ?_;have:p=[]:=List.eq_nil_of_length_eq_zero om;subst this;rw[<-hv];simp[val,z6,lm]};cbv;refine zF (fun h'=>?_) (fun h'=>?_);{cbv;refine uI rfl ?_ rfl;refine zN ?_;have:q=[]:=List.eq_nil_of_length_eq_zero om;subst this;rw[<-hv2];simp[val,z6,lm]};cbv;refine⟨zE om om,yJ om om,wM om om,?_⟩;cbv;refine yB (σ:=Nat×List UInt32) (fun s=>⟨[(0,nat p),(1,nat q),(5,.osl 28 1 (fun _=>0) (fun _=>p.length+q.length)),(29,nat p),(30,.int .i64 (fun _=>(p.length:Int))),(31,.int .i64 (fun _=>(s.1:Int)))],[(28,.arr 1 (fun _=>lm s.2))]⟩)
  (fun s=>s.1<=p.length/\s.2.length=p.length+q.length/\val s.2=val (p.take s.1)*val q/\∀ j,s.1+q.length<=j->s.2.getD j 0=0) (fun s=>p.length-s.1)
  (0,List.replicate (p.length+q.length) 0) ⟨om,by simp,by simp[val,kH],fun j _=>by simp only[List.getD_eq_getElem?_getD,List.getElem?_replicate];split <;> rfl⟩ (.le ?_ ?_ rfl) ?_
 {cbv;exact⟨lR,lR,z5 rfl om,lR,zC om,lR,trivial⟩}
 ·(cbv;refine⟨zA ?_,trivial⟩;show List.replicate (((lm p).length:Int)+((lm q).length:Int)).toNat _=_;have:(((lm p).length:Int)+((lm q).length:Int)).toNat=p.length+q.length:=by rw[zG,zG];omega);rw[this]
  simp[lm,xM,toD]
 intro s hs;obtain⟨h1,h2,h3,h4⟩:=hs;generalize s.1=i at *
 generalize s.2=out at *
 cbv;refine zF (fun h5=>?_) (fun h5=>?_)
 ·cbv;refine y5 i om om ?_;cbv;have hx:=yD (p.getD i 0);generalize hpx:(p.getD i 0).toNat=x at *
  refine yB (σ:=Nat×Nat×List UInt32) (fun s=>⟨[(0,nat p),(1,nat q),(5,.osl 28 1 (fun _=>0) (fun _=>p.length+q.length)),(29,nat p),(30,.int .i64 (fun _=>(p.length:Int))),(31,.int .i64 (fun _=>(i:Int))),(6,.int .i64 (fun _=>(i:Int))),(7,.int .u32 (fun _=>(x:Int))),(8,.int .u64 (fun _=>(s.2.1:Int))),(36,nat q),(37,.int .i64 (fun _=>(q.length:Int))),(38,.int .i64 (fun _=>(s.1:Int)))],[(28,.arr 1 (fun _=>lm s.2.2))]⟩)
   (fun s=>s.1<=q.length/\s.2.1<B/\s.2.2.length=p.length+q.length/\val s.2.2+B^(i+s.1)*s.2.1=val (p.take i)*val q+B^i*(x*val (q.take s.1))/\∀ j,i+q.length<=j->s.2.2.getD j 0=0) (fun s=>q.length-s.1)
   (0,0,out) ⟨om,xN,h2,by simp[val,h3],h4⟩ (.le ?_ ?_ rfl) ?_
  {cbv;exact⟨lR,lR,lR,lR,lR,lR,lR,lR,lR,lR,zC om,lR,trivial⟩};{cbv;exact⟨zA rfl,trivial⟩};intro s hs;obtain⟨g1,g2,g3,g4,g5⟩:=hs;generalize s.1=k at *
  generalize s.2.1=c at *
  generalize s.2.2=out' at *
  cbv;refine zF (fun h6=>?_) (fun h6=>?_)
  ·(cbv;refine y5 k om om ?_;cbv;have hik:0+((i:Int)+(k:Int)).toNat=i+k:=by omega);refine⟨zE om om,zQ om om,qI (i+k) hik om ?_⟩
   cbv;refine⟨zE om om,zQ om om,qI (i+k) hik om ?_⟩;cbv;have hy:=yD (q.getD k 0);have ho:=yD (out'.getD (i+k) 0);have hset:=fT out' (j:=i+k) om (UInt32.ofNat (c+(x*(q.getD k 0).toNat+(out'.getD (i+k) 0).toNat)));have htk:=zR q k;generalize hqy:(q.getD k 0).toNat=y at *
   generalize hoo:(out'.getD (i+k) 0).toNat=o at *
   (have hm:x*y<=4294967295*4294967295:=Nat.mul_le_mul (by simp only[B] at hx;omega) (by simp only[B] at hy;omega);have hB:B=4294967296:=rfl;have hT:nx .u64 ((c:Int)+nx .u64 (nx .u64 (nx .u64 (x:Int)*nx .u64 (y:Int))+nx .u64 (o:Int)))=((c+(x*y+o):Nat):Int):=by rw[xG (n:=x) (by omega),xG (n:=y) (by omega),xG (n:=o) (by omega),<-Int.natCast_mul,xG (n:=x*y) (by omega),<-Int.natCast_add,xG (n:=x*y+o) (by omega),<-Int.natCast_add,xG (by omega)]);refine⟨wP (by omega),zE om om,(k+1,(c+(x*y+o))/B,out'.set (i+k) (UInt32.ofNat (c+(x*y+o)))),⟨om,?_,by simpa using g3,?_,?_⟩,om,.le ?_ ?_ rfl⟩
   {show (c+(x*y+o))/B<B;exact Nat.div_lt_of_lt_mul (by have:B*B=18446744073709551616:=rfl;omega)}
   ·show val (out'.set (i+k) (UInt32.ofNat (c+(x*y+o))))+B^(i+(k+1))*((c+(x*y+o))/B)=val (p.take i)*val q+B^i*(x*val (q.take (k+1)));rw[htk];rw[xB] at hset;have e0:∀ t,B^(i+k)*(t%B)+B^(i+(k+1))*(t/B)=B^(i+k)*t:=by
     (intro t;have:i+(k+1)=(i+k)+1:=by omega);rw[this,Nat.pow_succ,Nat.mul_assoc,<-Nat.mul_add,Nat.mod_add_div]
    (have e1:=e0 (c+(x*y+o));have e3:B^(i+k)*(c+(x*y+o))=B^(i+k)*c+B^(i+k)*(x*y)+B^(i+k)*o:=by rw[Nat.mul_add,Nat.mul_add];omega);have e2:B^i*(x*(val (q.take k)+B^k*y))=B^i*(x*val (q.take k))+B^(i+k)*(x*y):=by rw[Nat.mul_add,Nat.mul_add,Nat.pow_add];congr 1;rw[Nat.mul_left_comm x,Nat.mul_assoc]
    omega
   {intro j hj;show (out'.set (i+k) _).getD j 0=0;rw[fI _ _ _ _ om];exact g5 j hj};{cbv;refine⟨lR,lR,lR,lR,lR,lR,lR,lR,zC ?_,lR,lR,zC om,trivial⟩;exact (congrArg (fun z=>ishr .u64 z 32) hT).trans (fH _)};{cbv;refine⟨zA ?_,trivial⟩;exact (congrArg (fun z=>(lm out').set (0+((i:Int)+(k:Int)).toNat) [.int .u32 (nx .u32 z)]) hT).trans (kL out' hik _)}
  ·(cbv;have hkq:k=q.length:=om;subst hkq;have hlq:0+((i:Int)+((lm q).length:Int)).toNat=i+q.length:=by rw[zG];omega);refine⟨zE om om,zQ om om,qI (i+q.length) hlq om ?_⟩
   cbv;refine⟨zE om om,(i+1,out'.set (i+q.length) (UInt32.ofNat c)),⟨om,by simpa using g3,?_,?_⟩,om,.le ?_ ?_ rfl⟩;{show val (out'.set (i+q.length) (UInt32.ofNat c))=val (p.take (i+1))*val q;have hset:=fT out' (j:=i+q.length) om (UInt32.ofNat c);rw[g5 _ (Nat.le_refl _),xB,Nat.mod_eq_of_lt g2] at hset;rw[List.take_of_length_le (Nat.le_refl _)] at g4;rw[zR p,hpx,Nat.add_mul,Nat.mul_assoc];simp only[UInt32.toNat_zero,Nat.mul_zero,Nat.add_zero] at hset;omega};{intro j hj;show (out'.set (i+q.length) _).getD j 0=0;have hj':i+1+q.length<=j:=hj;rw[fI _ _ _ _ (by omega)];exact g5 j (by omega)};{cbv;exact⟨lR,lR,lR,lR,lR,zC om,trivial⟩};{cbv;exact⟨zA (kL out' hlq c),trivial⟩}
 {cbv;have hip:i=p.length:=om;subst hip;refine fO (.trans (.le (ps':=⟨[(77,.osl 28 1 (fun _=>0) (fun _=>p.length+q.length))],[(28,.arr 1 (fun _=>lm out))]⟩) ?_ ?_ rfl) (.frz 28 rfl rfl ?_ ?_)) rfl (by refine⟨zX ?_,trivial⟩;exact List.take_of_length_le (by simp[zG] <;> omega)) (jT out (by omega)) rfl ?_;{cbv;exact okA};{cbv;exact⟨zA rfl,trivial⟩};{cbv;exact⟨yL (by simp[zG] <;> omega),trivial⟩};{exact trivial};cbv;refine uI rfl ?_ rfl;rw[List.take_of_length_le (Nat.le_refl _)] at h3;refine zX ?_;rw[h3,hv,hv2]}
end Go.Proofs.YtfainocfaddbdaaGreat
