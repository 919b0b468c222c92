/- A part of the proof: PnA, NtA, NtB, NtC, NtD. -/
import Derived.Test.YtgcpehdkdnkgeaaGreatV13
set_option linter.all false
namespace Go.Proofs.YtgcpehdkdnkgeaaGreat
def B:Nat:=4294967296
theorem xO:0<B:=by decide
theorem yE (x:UInt32):x.toNat<B:=x.toNat_lt
def val:List UInt32→Nat
 | []=>0
 | x::r=>x.toNat+B * val r
def zI (n:Nat):List UInt32 :=
 if h:n=0 then [] else UInt32.ofNat (n % B)::zI (n / B)
termination_by n
decreasing_by exact Nat.div_lt_self (by omega) (by decide)
theorem yM:zI 0=[]:=by rw[zI];simp
theorem g8 {n:Nat}(h:n≠0):zI n=UInt32.ofNat (n % B)::zI (n / B):=by rw[zI];simp [h]
theorem g7 (n:Nat):(UInt32.ofNat (n % B)).toNat=n % B:=by
 rw[UInt32.toNat_ofNat']
 exact Nat.mod_eq_of_lt (Nat.mod_lt _ xO)
theorem zM (n:Nat):val (zI n)=n:=by
 induction n using Nat.strongRecOn with
 | _ n ih =>
  by_cases h:n=0
  ·subst h;rw[yM];rfl
  ·rw[g8 h,val,g7,ih (n / B) (Nat.div_lt_self (by omega) (by decide))]
   exact Nat.mod_add_div n B
theorem wG:∀ (a b:List UInt32),val (a++b)=val a+B ^ a.length * val b
 | [],b=>by simp [val]
 | x::a,b=>by
  simp only[List.cons_append,val,List.length_cons,wG a b]
  rw[Nat.mul_add,Nat.pow_succ,←Nat.mul_assoc,Nat.mul_comm B (B ^ a.length)]
  omega
theorem xE:∀ (l:List UInt32),val l<B ^ l.length
 | []=>by simp [val]
 | x::r=>by
  have h1:=xE r
  have h2:=yE x
  have h3:B * (val r+1)≤B * B ^ r.length:=Nat.mul_le_mul_left _ h1
  simp only[val,List.length_cons,Nat.pow_succ]
  rw[Nat.mul_comm (B ^ r.length) B]
  rw[Nat.mul_add] at h3
  omega
def gC:List UInt32→Bool
 | []=>true
 | [x]=>x != 0
 | _::y::r=>gC (y::r)
theorem oW (x:UInt32){r:List UInt32}(h:r≠[]):gC (x::r)=gC r:=by
 cases r with
 | nil=>exact absurd rfl h
 | cons y r=>rfl
theorem zBG:∀ {l:List UInt32},gC l=true→l≠[]→0<val l
 | [],_,h=>absurd rfl h
 | [x],h,_=>by
  have h1:x≠0:=by simpa [gC] using h
  have:x.toNat≠0:=fun e=>h1 (UInt32.toNat_inj.1 e)
  simp only[val];omega
 | x::y::r,h,_=>by
  have h1:=zBG (l:=y::r) h (by simp)
  have:B * 1≤B * val (y::r):=Nat.mul_le_mul_left _ h1
  have h2:(0:Nat)<B:=xO
  show 0<x.toNat+B * val (y::r)
  omega
theorem sR:∀ {l:List UInt32},gC l=true→zI (val l)=l
 | [],_=>by simp [val,yM]
 | x::r,h=>by
  have hp:=zBG h (by simp)
  rw[g8 (by omega)]
  have hx:=yE x
  have h1:val (x::r) % B=x.toNat:=by
   simp only[val]
   rw[Nat.add_mul_mod_self_left,Nat.mod_eq_of_lt hx]
  have h2:val (x::r) / B=val r:=by
   simp only[val]
   rw[Nat.add_mul_div_left _ _ xO,Nat.div_eq_of_lt hx]
   omega
  rw[h1,h2]
  have hr:gC r=true:=by
   cases r with
   | nil=>rfl
   | cons y r=>exact h
  rw[sR hr]
  congr 1
  exact UInt32.toNat_inj.1 (by rw[UInt32.toNat_ofNat'];exact Nat.mod_eq_of_lt hx)
theorem dR (n:Nat):gC (zI n)=true:=by
 induction n using Nat.strongRecOn with
 | _ n ih =>
  by_cases h:n=0
  ·subst h;rw[yM];rfl
  ·rw[g8 h]
   by_cases h2:n / B=0
   ·rw[h2,yM]
    have hlt:n<B:=(Nat.div_eq_zero_iff_lt xO).1 h2
    have:(UInt32.ofNat (n % B)).toNat≠0:=by rw[g7,Nat.mod_eq_of_lt hlt];exact h
    simp only[gC,bne_iff_ne,ne_eq]
    exact fun e=>this (by rw[e];rfl)
   ·rw[oW _ (by rw[g8 h2];simp)]
    exact ih _ (Nat.div_lt_self (by omega) (by decide))
theorem pL (l:List UInt32)(x:UInt32):gC (l++[x])=(x != 0):=by
 induction l with
 | nil=>rfl
 | cons y l ih=>rw[List.cons_append,oW _ (by simp),ih]
theorem zAD (l:List UInt32):val (l++[0])=val l:=by rw[wG];simp [val]
theorem lK:∀ {a b:List UInt32},a.length=b.length→val a=val b→a=b
 | [],[],_,_=>rfl
 | x::a,y::b,hl,hv=>by
  simp only[val] at hv
  have hx:=yE x;have hy:=yE y
  have h1:x.toNat=y.toNat:=by
   have:=congrArg (· % B) hv
   simp only[Nat.add_mul_mod_self_left,Nat.mod_eq_of_lt hx,Nat.mod_eq_of_lt hy] at this
   exact this
  have h2:val a=val b:=by
   rw[h1] at hv
   exact Nat.eq_of_mul_eq_mul_left xO (Nat.add_left_cancel hv)
  rw[UInt32.toNat_inj.1 h1,lK (by simpa using hl) h2]
 | [],y::b,hl,_=>by simp at hl
 | x::a,[],hl,_=>by simp at hl
theorem z6 {n k:Nat}(h:n<B ^ k):(zI n).length≤k:=by
 induction k generalizing n with
 | zero =>
  have:n=0:=by simpa using h
  subst this
  rw[yM]
  simp
 | succ k ih =>
  by_cases h0:n=0
  ·subst h0;rw[yM];simp
  ·rw[g8 h0,List.length_cons]
   have:n / B<B ^ k:=by
    rw[Nat.div_lt_iff_lt_mul xO]
    rw[Nat.pow_succ] at h
    exact h
   have:=ih this
   omega
theorem zU (l:List UInt32):(zI (val l)).length≤l.length:=z6 (xE l)
theorem lH {n k:Nat}(h:B ^ k≤n):k<(zI n).length:=by
 rcases Nat.lt_or_ge k (zI n).length with h' | h'
 ·exact h'
 ·have h1:=xE (zI n)
  rw[zM] at h1
  have:B ^ (zI n).length≤B ^ k:=Nat.pow_le_pow_right xO h'
  omega
theorem xH {n:Nat}:zI n=[]↔n=0:=by
 constructor
 ·intro h
  have:=zM n
  rw[h] at this
  exact this.symm
 ·intro h;subst h;exact yM
theorem jG (l:List UInt32){n:Nat}(h:n<l.length):l.take (n+1)=l.take n++[l.getD n 0]:=by
 rw[List.take_add_one]
 simp [h]
theorem sE (l:List UInt32){m:Nat}(h:m<l.length):val l=val (l.take m)+B ^ m * ((l.getD m 0).toNat+B * val (l.drop (m+1))):=by
 have e:l=l.take m++(l.getD m 0::l.drop (m+1)):=by
  have:l.drop m=l.getD m 0::l.drop (m+1):=by
   rw[List.drop_eq_getElem_cons h]
   simp [h]
  rw[←this,List.take_append_drop]
 have hl:(l.take m).length=m:=by simp;omega
 calc val l=val (l.take m++(l.getD m 0::l.drop (m+1))):=by rw[←e]
  _=_:=by rw[wG,hl];rfl
theorem xV (l:List UInt32)(m:Nat):val (l.take m)<B ^ m:=by
 have h1:=xE (l.take m)
 have h2:(l.take m).length≤m:=by simp;omega
 exact Nat.lt_of_lt_of_le h1 (Nat.pow_le_pow_right xO h2)
theorem zLY {a b:List UInt32}{m:Nat}(ha:m<a.length)(hb:m<b.length)(hd:a.drop (m+1)=b.drop (m+1))(h:(a.getD m 0).toNat<(b.getD m 0).toNat):val a<val b:=by
 rw[sE a ha,sE b hb,hd]
 have h1:=xV a m
 have h2:(a.getD m 0).toNat+1+B * val (b.drop (m+1))≤(b.getD m 0).toNat+B * val (b.drop (m+1)):=by omega
 have h3:=Nat.mul_le_mul_left (B ^ m) h2
 have h4:B ^ m * ((a.getD m 0).toNat+1+B * val (b.drop (m+1)))=B ^ m * ((a.getD m 0).toNat+B * val (b.drop (m+1)))+B ^ m:=by
  rw[Nat.add_right_comm,Nat.mul_add (B ^ m) _ 1,Nat.mul_one]
 omega
theorem mC {n m:Nat}(h:(zI n).length<(zI m).length):n<m:=by
 have h1:=xE (zI n)
 rw[zM] at h1
 rcases Nat.lt_or_ge n m with h' | h'
 ·exact h'
 ·have h2:=z6 (Nat.lt_of_le_of_lt h' h1)
  omega
def vP (a b:Nat):Int:=if a<b then -1 else if b<a then 1 else 0
theorem iA {a b:Nat}(h:a<b):vP a b=-1:=by simp [vP,h]
theorem iB {a b:Nat}(h:b<a):vP a b=1:=by simp [vP,h,Nat.not_lt.2 (Nat.le_of_lt h)]
theorem zB6 (a:Nat):vP a a=0:=by simp [vP]
theorem zC9 (l:List UInt32)(x:UInt32):val (l++[x])=val l+B ^ l.length * x.toNat:=by rw[wG];simp [val]
theorem rM (l:List UInt32){n:Nat}(h:n<l.length):val (l.take (n+1))=val (l.take n)+B ^ n * (l.getD n 0).toNat:=by
 rw[jG l h,zC9]
 congr 3
 simp;omega
theorem zT (l:List UInt32)(n:Nat):val (l.take (n+1))=val (l.take n)+B ^ n * (l.getD n 0).toNat:=by
 rcases Nat.lt_or_ge n l.length with h | h
 ·exact rM l h
 ·rw[List.take_of_length_le (by omega),List.take_of_length_le h]
  simp [List.getElem?_eq_none h]
theorem w9 (l:List UInt32){n:Nat}(h:n<l.length)(x:UInt32):val ((l.set n x).take (n+1))=val (l.take n)+B ^ n * x.toNat:=by
 rw[rM _ (by simpa using h)]
 congr 2
 ·rw[List.take_set_of_le (Nat.le_refl _)]
 ·simp [h]
theorem xB (n:Nat):(UInt32.ofNat n).toNat=n % B:=by rw[UInt32.toNat_ofNat'];rfl
theorem dH (l:List UInt32){j:Nat}(h:j<l.length)(x:UInt32):val (l.set j x)+B ^ j * (l.getD j 0).toNat=val l+B ^ j * x.toNat:=by
 have hs:j<(l.set j x).length:=by simpa using h
 rw[sE l h,sE (l.set j x) hs]
 have e1:(l.set j x).take j=l.take j:=List.take_set_of_le (Nat.le_refl _)
 have e2:(l.set j x).drop (j+1)=l.drop (j+1):=by rw[List.drop_set_of_lt (by omega)]
 have e3:(l.set j x).getD j 0=x:=by simp [h]
 rw[e1,e2,e3,Nat.mul_add,Nat.mul_add]
 omega
theorem qY (n:Nat):val (List.replicate n 0)=0:=by
 induction n with
 | zero=>rfl
 | succ n ih=>simp [List.replicate_succ,val,ih]
theorem fS (l:List UInt32)(j k:Nat)(x:UInt32)(h:j≠k):(l.set j x).getD k 0=l.getD k 0:=by
 simp [List.getElem?_set_ne h]
end Go.Proofs.YtgcpehdkdnkgeaaGreat
namespace Go.Proofs.YtgcpehdkdnkgeaaGreat
open Go
set_option maxRecDepth 100000
theorem j1 (l:List UInt32)(hl:l.length<2^44):zE 214 [nat l] (nat (zI (val l))):=by
 refine sF Tryz.f214 ?_
 cbv
 refine zY (σ:=Nat) (fun n=>⟨[(0,nat l),(2,.nil),(3,.int .i64 (fun _=>(n:Int)))],[]⟩) (fun n=>n≤l.length∧val (l.take n)=val l) (fun n=>n) l.length ⟨Nat.le_refl _,by simp⟩ (.le ?_ trivial rfl) ?_
 ·cbv
  exact⟨lR,lR,zC (by simp [zK]),trivial⟩
 intro n hn
 cbv
 refine zR (fun h=>?_) (fun h=>?_)
 ·(try dsimp only [zG] at *)
  obtain⟨m,rfl⟩:∃ m,n=m+1:=⟨n - 1,by omega⟩
  cbv
  refine⟨zD om om,yZ m om om ?_⟩
  cbv
  refine zH (fun h2=>?_) (fun h2=>?_)
  ·cbv
   refine⟨zD om om,m,⟨om,?_⟩,om,.le ?_ trivial rfl⟩
   ·have e:l.getD m 0=0:=by
     have:(l.getD m 0).toNat=0:=om
     exact UInt32.toNat_inj.1 this
    rw[←hn.2,jG l (by omega),e,zAD]
   ·cbv
    exact⟨lR,lR,zC om,trivial⟩
  ·cbv
   refine zH (fun h3=>om) (fun h3=>?_)
   cbv
   refine⟨w4 om om om,pC l,?_⟩
   cbv
   refine qC rfl ?_ rfl
   refine zP ?_
   have e:l.getD m 0≠0:=fun e=>by (try dsimp only [zG] at *);rw[e] at h2;exact h2 rfl
   simp only[zG3,zG4]
   rw[←hn.2,sR (by rw[jG l (by omega),pL];simpa using e)]
   rfl
 ·cbv
  refine zH (fun h3=>?_) (fun h3=>om)
  cbv
  refine qC rfl ?_ rfl
  refine xC ?_
  have:n=0:=om
  subst this
  rw[←hn.2]
  simp [val,yM,lm]
theorem ty34:ty 24=.sli 1 4 [.int .u32 (fun _=>0)]:=by cbv
theorem s230 (l:List UInt32)(hl:l.length<2^40):zE 220 [nat l] (nat l):=by
 refine sF Tryz.f220 ?_
 cbv
 refine⟨fun b hb=>?_⟩
 cbv
 refine zS (fun h=>?_) (fun h=>?_)
 ·cbv
  refine qC rfl ?_ rfl
  exact xC (hb h)
 ·cbv
  refine k7 ty34 rfl rfl (pC l) (z7 om om) rfl ?_
  cbv
  refine retW (.frz 7 rfl rfl ?_ ?_) rfl ?_ rfl
  ·cbv
   exact⟨zX (by simp),zX (by simp),trivial⟩
  ·exact trivial
  ·refine zP ?_
   simp
theorem s223 (l:List UInt32)(hl:l.length<2^40):zE 210 [nat l] (nat (zI (val l))):=by
 refine sF Tryz.f210 ?_
 cbv
 refine cA (j1 l (by omega)) ?_
 cbv
 refine cA (s230 _ (Nat.lt_of_le_of_lt (zU l) hl)) ?_
 cbv
 refine qC rfl ?_ rfl
 exact lR
theorem bY {l:List UInt32}(h:l≠[]):gC l=(l.getD (l.length - 1) 0 != 0):=by
 have:l=l.dropLast++[l.getD (l.length - 1) 0]:=by
  rw[List.getD_eq_getElem?_getD,←List.getLast?_eq_getElem?,List.getLast?_eq_some_getLast h]
  exact (List.dropLast_concat_getLast h).symm
 rw[this,pL]
 simp
theorem zMQ (x:UInt32):(x != 0)=!decide ((x.toNat:Int)=0):=by
 rw[Bool.eq_iff_iff]
 simp only[bne_iff_ne,ne_eq,Bool.not_eq_true',decide_eq_false_iff_not]
 constructor
 ·intro h e
  exact h (UInt32.toNat_inj.1 (by simpa using e))
 ·intro h e
  exact h (by rw[e];rfl)
theorem s160 (l:List UInt32)(hl:l.length<2^40):zE 182 [nat l] (.bool (fun _=>gC l)):=by
 refine sF Tryz.f182 ?_
 cbv
 refine zR (fun h=>?_) (fun h=>?_)
 ·cbv
  refine qC rfl ?_ rfl
  refine yL ?_
  have:l=[]:=List.eq_nil_of_length_eq_zero om
  subst this
  rfl
 ·cbv
  refine⟨zD om om,yZ (l.length - 1) om om ?_⟩
  cbv
  refine qC rfl ?_ rfl
  refine wU ?_
  have hne:l≠[]:=fun e=>by subst e;exact h rfl
  rw[bY hne]
  exact zMQ _
theorem s211 (x:Nat)(hx:x<B * B):zE 216 [.int .u64 (fun _=>(x:Int))] (nat (zI x)):=by
 refine sF Tryz.f216 ?_
 cbv
 refine⟨wJ (by omega),?_⟩
 refine yX rfl (by
  refine⟨zP ?_,trivial⟩
  have h1:ishr .u64 (x:Int) 32=((x / B:Nat):Int):=by
   unfold ishr
   simp [IntKind.bits,B,Int.fdiv_eq_ediv_of_nonneg]
  have h2:x / B<B:=Nat.div_lt_of_lt_mul hx
  simp only[zQ,yW,toD,lm,List.map_cons,List.map_nil,zG,h1,qP,g7]
  rw[UInt32.toNat_ofNat',Nat.mod_eq_of_lt (show x / B<2 ^ 32 from h2)]
  simp only[B] at *
  congr 3
  ·congr 1;omega) (j1 [UInt32.ofNat (x % B),UInt32.ofNat (x / B)] (by simp)) rfl ?_
 cbv
 refine qC rfl ?_ rfl
 refine zP ?_
 have h2:x / B<B:=Nat.div_lt_of_lt_mul hx
 have:val [UInt32.ofNat (x % B),UInt32.ofNat (x / B)]=x:=by
  simp only[val,g7]
  rw[UInt32.toNat_ofNat',Nat.mod_eq_of_lt (show x / B<2 ^ 32 from h2),Nat.mul_zero,Nat.add_zero]
  exact Nat.mod_add_div x B
 rw[this]
theorem s162 (a b:List UInt32)(ha:a.length<2^40)(hb:b.length<2^40):zE 183 [nat a,nat b] (.int .i64 (fun _=>vP (val a) (val b))):=by
 refine sF Tryz.f183 ?_
 cbv
 refine cA (j1 a (by omega)) ?_
 cbv
 refine cA (j1 b (by omega)) ?_
 cbv
 have ha':=Nat.lt_of_le_of_lt (zU a) ha
 have hb':=Nat.lt_of_le_of_lt (zU b) hb
 refine zH (fun h=>?_) (fun h=>?_)
 ·cbv
  have hl:(zI (val a)).length=(zI (val b)).length:=om
  refine⟨zD om om,?_⟩
  refine zY (σ:=Nat) (fun n=>⟨[(0,nat (zI (val a))),(1,nat (zI (val b))),(5,.int .i64 (fun _=>(n:Int) - 1))],[]⟩) (fun n=>n≤(zI (val a)).length∧(zI (val a)).drop n=(zI (val b)).drop n) (fun n=>n) (zI (val a)).length ⟨Nat.le_refl _,by simp [hl]⟩ (.le ?_ trivial rfl) ?_
  ·cbv
   exact⟨lR,lR,zC om,trivial⟩
  intro n hn
  cbv
  refine zH (fun h2=>?_) (fun h2=>?_)
  ·(try dsimp only [zG] at *)
   obtain⟨m,rfl⟩:∃ m,n=m+1:=⟨n - 1,by omega⟩
   cbv
   refine zO 9 (by cbv) ?_
   cbv
   refine yZ m om om ?_
   cbv
   refine yZ m om om ?_
   cbv
   refine zH (fun h3=>?_) (fun h3=>?_)
   ·cbv
    refine⟨zD om om,m,⟨om,?_⟩,om,.le ?_ trivial rfl⟩
    ·(try dsimp only [zG] at *)
     have e:(zI (val a)).getD m 0=(zI (val b)).getD m 0:=UInt32.toNat_inj.1 (by omega)
     rw[List.drop_eq_getElem_cons (by omega:m<(zI (val a)).length),List.drop_eq_getElem_cons (by omega:m<(zI (val b)).length),hn.2]
     congr 1
     simpa [show m<(zI (val a)).length by omega,show m<(zI (val b)).length by omega] using e
    ·cbv
     exact⟨lR,lR,zC om,trivial⟩
   ·cbv
    refine zO 9 (by cbv) ?_
    cbv
    refine yZ m om om ?_
    cbv
    refine yZ m om om ?_
    cbv
    refine zH (fun h4=>?_) (fun h4=>?_)
    ·cbv
     refine qC rfl ?_ rfl
     refine zC ?_
     have:=zLY (a:=zI (val a)) (b:=zI (val b)) (m:=m) om om hn.2 om
     rw[zM,zM] at this
     rw[iA this]
    ·cbv
     refine qC rfl ?_ rfl
     refine zC ?_
     have:=zLY (a:=zI (val b)) (b:=zI (val a)) (m:=m) om om hn.2.symm om
     rw[zM,zM] at this
     rw[iB this]
  ·cbv
   refine qC rfl ?_ rfl
   refine zC ?_
   have h0:n=0:=om
   subst h0
   have e:zI (val a)=zI (val b):=by simpa using hn.2
   have:val a=val b:=by rw[←zM (val a),e,zM]
   rw[this,zB6]
 ·cbv
  refine zH (fun h2=>?_) (fun h2=>?_)
  ·cbv
   refine qC rfl ?_ rfl
   refine zC ?_
   rw[iA (mC om)]
  ·cbv
   refine qC rfl ?_ rfl
   refine zC ?_
   rw[iB (mC om)]
theorem zLG (l:List UInt32)(i:Nat)(x:UInt32):(lm l).set i [.int .u32 x.toNat]=lm (l.set i x):=by
 simp [lm,List.map_set]
theorem fR (n:Nat):ishr .u64 (n:Int) 32=((n / B:Nat):Int):=by
 unfold ishr
 simp [IntKind.bits,B,Int.fdiv_eq_ediv_of_nonneg]
theorem kH (out:List UInt32){k j:Nat}(hk:k=j)(d:Nat):(lm out).set k [.int .u32 (nx .u32 ((d:Nat):Int))]=lm (out.set j (UInt32.ofNat d)):=by
 subst hk
 rw[←zLG,xB,qP]
 simp [B]
theorem s221 (a b:List UInt32)(ha:a.length<2^40)(hb:b.length<2^40):zE 208 [nat a,nat b] (nat (zI (val a+val b))):=by
 refine sF Tryz.f208 ?_
 cbv
 refine cA (j1 a (by omega)) ?_
 cbv
 refine cA (j1 b (by omega)) ?_
 cbv
 have ha':=Nat.lt_of_le_of_lt (zU a) ha
 have hb':=Nat.lt_of_le_of_lt (zU b) hb
 refine j9 (σ:=List UInt32 × List UInt32) (fun s=>⟨[(0,nat s.1),(1,nat s.2),(4,.nil)],[]⟩) (fun s=>s.2.length≤s.1.length∧s.1.length<2^40∧val s.1+val s.2=val a+val b) (fun h=>?_) (fun h=>?_) ?_
 ·cbv
  refine⟨(zI (val b),zI (val a)),⟨om,hb',by simp only[zM];omega⟩,.le ?_ trivial rfl⟩
  cbv
  exact okA
 ·cbv
  refine⟨(zI (val a),zI (val b)),⟨om,ha',by simp only[zM]⟩,.le ?_ trivial rfl⟩
  cbv
  exact okA
 intro s hs
 obtain⟨hpq,hp,hv⟩:=hs
 generalize s.1=p at *
 generalize s.2=q at *
 cbv
 refine⟨zD om om,z7 om om,qK om om,?_⟩
 cbv
 refine zY (σ:=Nat × Nat × List UInt32) (fun s=>⟨[(0,nat p),(1,nat q),(5,.osl 23 1 (fun _=>0) (fun _=>p.length+1)),(6,.int .u64 (fun _=>(s.2.1:Int))),(24,nat p),(25,.int .i64 (fun _=>(p.length:Int))),(26,.int .i64 (fun _=>(s.1:Int)))],[(23,.arr 1 (fun _=>lm s.2.2))]⟩)
  (fun s=>s.1≤p.length∧s.2.1<2∧s.2.2.length=p.length+1∧val (s.2.2.take s.1)+B ^ s.1 * s.2.1=val (p.take s.1)+val (q.take s.1)) (fun s=>p.length - s.1)
  (0,0,List.replicate (p.length+1) 0) ⟨om,om,by simp,by simp [val]⟩ (.le ?_ ?_ rfl) ?_
 ·cbv
  exact⟨lR,lR,z0 rfl om,lR,lR,zC om,lR,trivial⟩
 ·cbv
  refine⟨zF ?_,trivial⟩
  show List.replicate (((lm p).length:Int)+1).toNat _=_
  have:(((lm p).length:Int)+1).toNat=p.length+1:=by rw[zK];omega
  rw[this]
  simp [lm,yW,toD]
 intro s hs
 obtain⟨h1,h2,h3,h4⟩:=hs
 generalize s.1=i at *
 generalize s.2.1=c at *
 generalize s.2.2=out at *
 cbv
 refine zH (fun h5=>?_) (fun h5=>?_)
 ·cbv
  refine yZ i om om ?_
  cbv
  have hpi:=yE (p.getD i 0)
  have hqi:=yE (q.getD i 0)
  simp only[B] at hpi hqi
  refine j9 (σ:=Unit) (fun _=>⟨[(0,nat p),(1,nat q),(5,.osl 23 1 (fun _=>0) (fun _=>p.length+1)),(6,.int .u64 (fun _=>((c+(p.getD i 0).toNat+(q.getD i 0).toNat:Nat):Int))),(7,.int .i64 (fun _=>(i:Int))),(24,nat p),(25,.int .i64 (fun _=>(p.length:Int))),(26,.int .i64 (fun _=>(i:Int)))],[(23,.arr 1 (fun _=>lm out))]⟩) (fun _=>True) (fun h6=>?_) (fun h6=>?_) ?_
  ·cbv
   refine yZ i om om ?_
   cbv
   refine⟨(),trivial,.le ?_ ?_ rfl⟩
   ·cbv
    refine⟨lR,lR,lR,zC ?_,lR,lR,lR,lR,trivial⟩
    (try dsimp only [zG] at *)
    simp only[wW]
    omega
   ·cbv
    exact⟨zF rfl,trivial⟩
  ·cbv
   refine⟨(),trivial,.le ?_ ?_ rfl⟩
   ·cbv
    refine⟨lR,lR,lR,zC ?_,lR,lR,lR,lR,trivial⟩
    have:(q.getD i 0).toNat=0:=by
     have:q.length≤i:=om
     simp [List.getElem?_eq_none this]
    (try dsimp only [zG] at *)
    simp only[wW]
    omega
   ·cbv
    exact⟨zF rfl,trivial⟩
  intro _ _
  generalize hd:c+(p.getD i 0).toNat+(q.getD i 0).toNat=d
  cbv
  refine⟨yD om om,qH i (by simp) om ?_⟩
  cbv
  refine⟨wJ (by omega),zD om om,(i+1,d / B,out.set i (UInt32.ofNat d)),⟨om,?_,by simpa using h3,?_⟩,om,.le ?_ ?_ rfl⟩
  ·show d / B<2
   simp only[B]
   omega
  ·show val ((out.set i (UInt32.ofNat d)).take (i+1))+B ^ (i+1) * (d / B)=val (p.take (i+1))+val (q.take (i+1))
   rw[w9 _ om,zT p,zT q,xB]
   have e1:B ^ i * (d % B)+B ^ (i+1) * (d / B)=B ^ i * d:=by
    rw[Nat.pow_succ,Nat.mul_assoc,←Nat.mul_add,Nat.mod_add_div]
   have e2:B ^ i * d=B ^ i * c+B ^ i * (p.getD i 0).toNat+B ^ i * (q.getD i 0).toNat:=by rw[←hd,Nat.mul_add,Nat.mul_add]
   omega
  ·cbv
   refine⟨lR,lR,lR,zC (fR d),lR,lR,zC om,trivial⟩
  ·cbv
   exact⟨zF (kH out (by simp) d),trivial⟩
 ·cbv
  refine⟨yD om om,qH p.length (by simp [zK]) om ?_⟩
  cbv
  have hi:i=p.length:=om
  subst hi
  refine uT (.trans (.le (ps':=⟨[(60,.osl 23 1 (fun _=>0) (fun _=>p.length+1))],[(23,.arr 1 (fun _=>lm (out.set p.length (UInt32.ofNat c))))]⟩) ?_ ?_ rfl) (.frz 23 rfl rfl ?_ ?_)) rfl (by refine⟨zP ?_,trivial⟩;exact List.take_of_length_le (by simp [zK] <;> omega)) (j1 (out.set p.length (UInt32.ofNat c)) (by simp;omega)) rfl ?_
  ·cbv
   exact okA
  ·cbv
   exact⟨zF (kH out (by simp [zK]) c),trivial⟩
  ·cbv
   exact⟨zX (by simp [zK];omega),trivial⟩
  ·exact trivial
  cbv
  refine qC rfl ?_ rfl
  refine zP ?_
  congr 2
  have e:=w9 out (n:=p.length) (by omega) (UInt32.ofNat c)
  rw[List.take_of_length_le (by simp;omega),xB,Nat.mod_eq_of_lt (show c<B by simp only[B];omega),h4,List.take_of_length_le (Nat.le_refl _),List.take_of_length_le hpq] at e
  omega
theorem kG (out:List UInt32){k j:Nat}(hk:k=j){z:Int}{w:Nat}(hz:z=(w:Int))(hw:w<B):(lm out).set k [.int .u32 z]=lm (out.set j (UInt32.ofNat w)):=by
 subst hk hz
 rw[←zLG,xB,Nat.mod_eq_of_lt hw]
theorem zLJ (z:Int):ishr .u64 z 63=z / 9223372036854775808:=by
 unfold ishr
 simp [IntKind.bits,Int.fdiv_eq_ediv_of_nonneg]
theorem s222 (a b:List UInt32)(ha:a.length<2^40)(hb:b.length<2^40):zE 209 [nat a,nat b] (.tup [nat (zI (val a - val b)),.int .i64 (fun _=>if val b≤val a then 0 else 2)]):=by
 refine sF Tryz.f209 ?_
 cbv
 refine cA (j1 a (by omega)) ?_
 cbv
 refine cA (j1 b (by omega)) ?_
 cbv
 have ha':=Nat.lt_of_le_of_lt (zU a) ha
 have hb':=Nat.lt_of_le_of_lt (zU b) hb
 refine cA (s162 _ _ ha' hb') ?_
 cbv
 simp only[zM]
 refine zH (fun h=>?_) (fun h=>?_)
 ·have h':val a<val b:=by
   rcases Nat.lt_trichotomy (val a) (val b) with h1 | h1 | h1
   ·exact h1
   ·rw[h1,zB6] at h;omega
   ·rw[iB h1] at h;omega
  cbv
  refine qC rfl ?_ rfl
  refine⟨xC ?_,zC ?_,trivial⟩
  ·rw[Nat.sub_eq_zero_of_le (by omega),yM];rfl
  ·rw[if_neg (by omega)]
 have hle:val b≤val a:=by
  rcases Nat.lt_or_ge (val a) (val b) with h1 | h1
  ·rw[iA h1] at h;omega
  ·exact h1
 have hv:val (zI (val a))=val a:=zM _
 have hv2:val (zI (val b))=val b:=zM _
 have hpq:(zI (val b)).length≤(zI (val a)).length:=by
  rcases Nat.lt_or_ge (zI (val a)).length (zI (val b)).length with h1 | h1
  ·have:=mC h1;omega
  ·exact h1
 generalize zI (val a)=p at *
 generalize zI (val b)=q at *
 cbv
 refine⟨z7 om om,qK om om,?_⟩
 cbv
 refine zY (σ:=Nat × Nat × List UInt32) (fun s=>⟨[(0,nat p),(1,nat q),(6,.osl 21 1 (fun _=>0) (fun _=>p.length)),(7,.int .u64 (fun _=>(s.2.1:Int))),(22,nat p),(23,.int .i64 (fun _=>(p.length:Int))),(24,.int .i64 (fun _=>(s.1:Int)))],[(21,.arr 1 (fun _=>lm s.2.2))]⟩)
  (fun s=>s.1≤p.length∧s.2.1<2∧s.2.2.length=p.length∧val (s.2.2.take s.1)+val (q.take s.1)=val (p.take s.1)+B ^ s.1 * s.2.1) (fun s=>p.length - s.1)
  (0,0,List.replicate p.length 0) ⟨om,om,by simp,by simp [val]⟩ (.le ?_ ?_ rfl) ?_
 ·cbv
  exact⟨lR,lR,z0 rfl om,lR,lR,zC om,lR,trivial⟩
 ·cbv
  refine⟨zF ?_,trivial⟩
  show List.replicate (((lm p).length:Int)).toNat _=_
  have:(((lm p).length:Int)).toNat=p.length:=by rw[zK];omega
  rw[this]
  simp [lm,yW,toD]
 intro s hs
 obtain⟨h1,h2,h3,h4⟩:=hs
 generalize s.1=i at *
 generalize s.2.1=c at *
 generalize s.2.2=out at *
 cbv
 refine zH (fun h5=>?_) (fun h5=>?_)
 ·cbv
  refine yZ i om om ?_
  cbv
  have hpi:=yE (p.getD i 0)
  have hqi:=yE (q.getD i 0)
  simp only[B] at hpi hqi
  refine j9 (σ:=Unit) (fun _=>⟨[(0,nat p),(1,nat q),(6,.osl 21 1 (fun _=>0) (fun _=>p.length)),(10,.int .u64 (fun _=>nx .u64 (((p.getD i 0).toNat:Int) - (c:Int) - ((q.getD i 0).toNat:Int)))),(8,.int .i64 (fun _=>(i:Int))),(22,nat p),(23,.int .i64 (fun _=>(p.length:Int))),(24,.int .i64 (fun _=>(i:Int)))],[(21,.arr 1 (fun _=>lm out))]⟩) (fun _=>True) (fun h6=>?_) (fun h6=>?_) ?_
  ·cbv
   refine yZ i om om ?_
   cbv
   refine⟨(),trivial,.le ?_ ?_ rfl⟩
   ·cbv
    refine⟨lR,lR,lR,zC ?_,lR,lR,lR,lR,trivial⟩
    (try dsimp only [zG] at *)
    simp only[wW]
    omega
   ·cbv
    exact⟨zF rfl,trivial⟩
  ·cbv
   refine⟨(),trivial,.le ?_ ?_ rfl⟩
   ·cbv
    refine⟨lR,lR,lR,zC ?_,lR,lR,lR,lR,trivial⟩
    have:(q.getD i 0).toNat=0:=by
     have:q.length≤i:=om
     simp [List.getElem?_eq_none this]
    (try dsimp only [zG] at *)
    simp only[wW]
    omega
   ·cbv
    exact⟨zF rfl,trivial⟩
  intro _ _
  obtain⟨w,c',hw,hc',he⟩:∃ w c':Nat,w<B∧c'<2∧(p.getD i 0).toNat+B * c'=w+c+(q.getD i 0).toNat:=by
   simp only[B]
   by_cases hlt:(p.getD i 0).toNat<c+(q.getD i 0).toNat
   ·exact⟨(p.getD i 0).toNat+4294967296 - c - (q.getD i 0).toNat,1,by omega,by omega,by omega⟩
   ·exact⟨(p.getD i 0).toNat - c - (q.getD i 0).toNat,0,by omega,by omega,by omega⟩
  have hz:nx .u64 (((p.getD i 0).toNat:Int) - (c:Int) - ((q.getD i 0).toNat:Int))=if c'=0 then (w:Int) else (w:Int)+18446744069414584320:=by
   rw[wW]
   simp only[B] at *
   split <;> omega
  simp only[hz]
  cbv
  refine⟨yD om om,qH i (by simp) om ?_⟩
  cbv
  refine⟨wJ (by omega),zD om om,(i+1,c',out.set i (UInt32.ofNat w)),⟨om,hc',by simpa using h3,?_⟩,om,.le ?_ ?_ rfl⟩
  ·show val ((out.set i (UInt32.ofNat w)).take (i+1))+val (q.take (i+1))=val (p.take (i+1))+B ^ (i+1) * c'
   rw[w9 _ om,zT p,zT q,xB,Nat.mod_eq_of_lt hw]
   have e1:B ^ i * (p.getD i 0).toNat+B ^ (i+1) * c'=B ^ i * w+B ^ i * c+B ^ i * (q.getD i 0).toNat:=by
    rw[Nat.pow_succ,Nat.mul_assoc,←Nat.mul_add,he,Nat.mul_add,Nat.mul_add]
   omega
  ·cbv
   refine⟨lR,lR,lR,zC ?_,lR,lR,zC om,trivial⟩
   rw[zLJ]
   show (if c'=0 then (w:Int) else (w:Int)+18446744069414584320) / 9223372036854775808=(c':Int)
   simp only[B] at hw
   split <;> omega
  ·cbv
   refine⟨zF (kG out (by simp) ?_ hw),trivial⟩
   show nx .u32 (if c'=0 then (w:Int) else (w:Int)+18446744069414584320)=(w:Int)
   rw[qP]
   simp only[B] at hw
   split <;> omega
 ·cbv
  have hi:i=p.length:=om
  subst hi
  refine uT (.trans (.le (ps':=⟨[(52,.osl 21 1 (fun _=>0) (fun _=>p.length))],[(21,.arr 1 (fun _=>lm out))]⟩) ?_ ?_ rfl) (.frz 21 rfl rfl ?_ ?_)) rfl (by refine⟨zP ?_,trivial⟩;exact List.take_of_length_le (by simp [zK] <;> omega)) (j1 out (by omega)) rfl ?_
  ·cbv
   exact okA
  ·cbv
   exact⟨zF rfl,trivial⟩
  ·cbv
   exact⟨zX (by simp [zK] <;> omega),trivial⟩
  ·exact trivial
  cbv
  refine qC rfl ?_ rfl
  rw[List.take_of_length_le (by omega),List.take_of_length_le hpq,List.take_of_length_le (Nat.le_refl _)] at h4
  have hlo:=xE out
  have hlq:=xE q
  have hc0:c=0:=by
   rcases Nat.eq_zero_or_pos c with h6 | h6
   ·exact h6
   ·exfalso
    have:c=1:=by omega
    subst this
    rw[h3] at hlo
    omega
  subst hc0
  refine⟨zP ?_,zC ?_,trivial⟩
  ·congr 2;omega
  ·rw[if_pos hle]
theorem xA {n:Nat}(h:n<18446744073709551616):nx .u64 (n:Int)=(n:Int):=by rw[wW];omega
theorem s194 (a b:List UInt32)(ha:a.length<2^40)(hb:b.length<2^40):zE 180 [nat a,nat b] (nat (zI (val a * val b))):=by
 refine sF Tryz.f180 ?_
 cbv
 refine cA (j1 a (by omega)) ?_
 cbv
 refine cA (j1 b (by omega)) ?_
 cbv
 have ha':=Nat.lt_of_le_of_lt (zU a) ha
 have hb':=Nat.lt_of_le_of_lt (zU b) hb
 have hv:val (zI (val a))=val a:=zM _
 have hv2:val (zI (val b))=val b:=zM _
 generalize zI (val a)=p at *
 generalize zI (val b)=q at *
 
 refine zR (fun h=>?_) (fun h=>?_)
 ·cbv
  refine qC rfl ?_ rfl
  refine xC ?_
  have:p=[]:=List.eq_nil_of_length_eq_zero om
  subst this
  rw[←hv]
  simp [val,yM,lm]
 cbv
 refine zH (fun h'=>?_) (fun h'=>?_)
 ·cbv
  refine qC rfl ?_ rfl
  refine xC ?_
  have:q=[]:=List.eq_nil_of_length_eq_zero om
  subst this
  rw[←hv2]
  simp [val,yM,lm]
 cbv
 refine⟨zD om om,z7 om om,qK om om,?_⟩
 cbv
 refine zY (σ:=Nat × List UInt32) (fun s=>⟨[(0,nat p),(1,nat q),(5,.osl 28 1 (fun _=>0) (fun _=>p.length+q.length)),(29,nat p),(30,.int .i64 (fun _=>(p.length:Int))),(31,.int .i64 (fun _=>(s.1:Int)))],[(28,.arr 1 (fun _=>lm s.2))]⟩)
  (fun s=>s.1≤p.length∧s.2.length=p.length+q.length∧val s.2=val (p.take s.1) * val q∧∀ j,s.1+q.length≤j→s.2.getD j 0=0) (fun s=>p.length - s.1)
  (0,List.replicate (p.length+q.length) 0) ⟨om,by simp,by simp [val,qY],fun j _=>by simp only[List.getD_eq_getElem?_getD,List.getElem?_replicate];split <;> rfl⟩ (.le ?_ ?_ rfl) ?_
 ·cbv
  exact⟨lR,lR,z0 rfl om,lR,zC om,lR,trivial⟩
 ·cbv
  refine⟨zF ?_,trivial⟩
  show List.replicate (((lm p).length:Int)+((lm q).length:Int)).toNat _=_
  have:(((lm p).length:Int)+((lm q).length:Int)).toNat=p.length+q.length:=by rw[zK,zK];omega
  rw[this]
  simp [lm,yW,toD]
 intro s hs
 obtain⟨h1,h2,h3,h4⟩:=hs
 generalize s.1=i at *
 generalize s.2=out at *
 cbv
 refine zH (fun h5=>?_) (fun h5=>?_)
 ·cbv
  refine yZ i om om ?_
  cbv
  have hx:=yE (p.getD i 0)
  generalize hpx:(p.getD i 0).toNat=x at *
  refine zY (σ:=Nat × Nat × List UInt32) (fun s=>⟨[(0,nat p),(1,nat q),(5,.osl 28 1 (fun _=>0) (fun _=>p.length+q.length)),(29,nat p),(30,.int .i64 (fun _=>(p.length:Int))),(31,.int .i64 (fun _=>(i:Int))),(6,.int .i64 (fun _=>(i:Int))),(7,.int .u32 (fun _=>(x:Int))),(8,.int .u64 (fun _=>(s.2.1:Int))),(36,nat q),(37,.int .i64 (fun _=>(q.length:Int))),(38,.int .i64 (fun _=>(s.1:Int)))],[(28,.arr 1 (fun _=>lm s.2.2))]⟩)
   (fun s=>s.1≤q.length∧s.2.1<B∧s.2.2.length=p.length+q.length∧val s.2.2+B ^ (i+s.1) * s.2.1=val (p.take i) * val q+B ^ i * (x * val (q.take s.1))∧∀ j,i+q.length≤j→s.2.2.getD j 0=0) (fun s=>q.length - s.1)
   (0,0,out) ⟨om,xO,h2,by simp [val,h3],h4⟩ (.le ?_ ?_ rfl) ?_
  ·cbv
   exact⟨lR,lR,lR,lR,lR,lR,lR,lR,lR,lR,zC om,lR,trivial⟩
  ·cbv
   exact⟨zF rfl,trivial⟩
  intro s hs
  obtain⟨g1,g2,g3,g4,g5⟩:=hs
  generalize s.1=k at *
  generalize s.2.1=c at *
  generalize s.2.2=out' at *
  cbv
  refine zH (fun h6=>?_) (fun h6=>?_)
  ·cbv
   refine yZ k om om ?_
   cbv
   have hik:0+((i:Int)+(k:Int)).toNat=i+k:=by omega
   refine⟨zD om om,yD om om,qH (i+k) hik om ?_⟩
   cbv
   refine⟨zD om om,yD om om,qH (i+k) hik om ?_⟩
   cbv
   have hy:=yE (q.getD k 0)
   have ho:=yE (out'.getD (i+k) 0)
   have hset:=dH out' (j:=i+k) om (UInt32.ofNat (c+(x * (q.getD k 0).toNat+(out'.getD (i+k) 0).toNat)))
   have htk:=zT q k
   generalize hqy:(q.getD k 0).toNat=y at *
   generalize hoo:(out'.getD (i+k) 0).toNat=o at *
   have hm:x * y≤4294967295 * 4294967295:=Nat.mul_le_mul (by simp only[B] at hx;omega) (by simp only[B] at hy;omega)
   have hB:B=4294967296:=rfl
   have hT:nx .u64 ((c:Int)+nx .u64 (nx .u64 (nx .u64 (x:Int) * nx .u64 (y:Int))+nx .u64 (o:Int)))=((c+(x * y+o):Nat):Int):=by
    rw[xA (n:=x) (by omega),xA (n:=y) (by omega),xA (n:=o) (by omega),←Int.natCast_mul,xA (n:=x * y) (by omega),←Int.natCast_add,xA (n:=x * y+o) (by omega),←Int.natCast_add,xA (by omega)]
   refine⟨wJ (by omega),zD om om,(k+1,(c+(x * y+o)) / B,out'.set (i+k) (UInt32.ofNat (c+(x * y+o)))),⟨om,?_,by simpa using g3,?_,?_⟩,om,.le ?_ ?_ rfl⟩
   ·show (c+(x * y+o)) / B<B
    exact Nat.div_lt_of_lt_mul (by have:B * B=18446744073709551616:=rfl;omega)
   ·show val (out'.set (i+k) (UInt32.ofNat (c+(x * y+o))))+B ^ (i+(k+1)) * ((c+(x * y+o)) / B)=val (p.take i) * val q+B ^ i * (x * val (q.take (k+1)))
    rw[htk]
    rw[xB] at hset
    have e0:∀ t,B ^ (i+k) * (t % B)+B ^ (i+(k+1)) * (t / B)=B ^ (i+k) * t:=by
     intro t
     have:i+(k+1)=(i+k)+1:=by omega
     rw[this,Nat.pow_succ,Nat.mul_assoc,←Nat.mul_add,Nat.mod_add_div]
    have e1:=e0 (c+(x * y+o))
    have e3:B ^ (i+k) * (c+(x * y+o))=B ^ (i+k) * c+B ^ (i+k) * (x * y)+B ^ (i+k) * o:=by rw[Nat.mul_add,Nat.mul_add];omega
    have e2:B ^ i * (x * (val (q.take k)+B ^ k * y))=B ^ i * (x * val (q.take k))+B ^ (i+k) * (x * y):=by
     rw[Nat.mul_add,Nat.mul_add,Nat.pow_add]
     congr 1
     rw[Nat.mul_left_comm x,Nat.mul_assoc]
    omega
   ·intro j hj
    show (out'.set (i+k) _).getD j 0=0
    rw[fS _ _ _ _ om]
    exact g5 j hj
   ·cbv
    refine⟨lR,lR,lR,lR,lR,lR,lR,lR,zC ?_,lR,lR,zC om,trivial⟩
    exact (congrArg (fun z=>ishr .u64 z 32) hT).trans (fR _)
   ·cbv
    refine⟨zF ?_,trivial⟩
    exact (congrArg (fun z=>(lm out').set (0+((i:Int)+(k:Int)).toNat) [.int .u32 (nx .u32 z)]) hT).trans (kH out' hik _)
  ·cbv
   have hkq:k=q.length:=om
   subst hkq
   have hlq:0+((i:Int)+((lm q).length:Int)).toNat=i+q.length:=by rw[zK];omega
   refine⟨zD om om,yD om om,qH (i+q.length) hlq om ?_⟩
   cbv
   refine⟨zD om om,(i+1,out'.set (i+q.length) (UInt32.ofNat c)),⟨om,by simpa using g3,?_,?_⟩,om,.le ?_ ?_ rfl⟩
   ·show val (out'.set (i+q.length) (UInt32.ofNat c))=val (p.take (i+1)) * val q
    have hset:=dH out' (j:=i+q.length) om (UInt32.ofNat c)
    rw[g5 _ (Nat.le_refl _),xB,Nat.mod_eq_of_lt g2] at hset
    rw[List.take_of_length_le (Nat.le_refl _)] at g4
    rw[zT p,hpx,Nat.add_mul,Nat.mul_assoc]
    simp only[UInt32.toNat_zero,Nat.mul_zero,Nat.add_zero] at hset
    omega
   ·intro j hj
    show (out'.set (i+q.length) _).getD j 0=0
    have hj':i+1+q.length≤j:=hj
    rw[fS _ _ _ _ (by omega)]
    exact g5 j (by omega)
   ·cbv
    exact⟨lR,lR,lR,lR,lR,zC om,trivial⟩
   ·cbv
    exact⟨zF (kH out' hlq c),trivial⟩
 ·cbv
  have hip:i=p.length:=om
  subst hip
  refine uT (.trans (.le (ps':=⟨[(77,.osl 28 1 (fun _=>0) (fun _=>p.length+q.length))],[(28,.arr 1 (fun _=>lm out))]⟩) ?_ ?_ rfl) (.frz 28 rfl rfl ?_ ?_)) rfl (by refine⟨zP ?_,trivial⟩;exact List.take_of_length_le (by simp [zK] <;> omega)) (j1 out (by omega)) rfl ?_
  ·cbv
   exact okA
  ·cbv
   exact⟨zF rfl,trivial⟩
  ·cbv
   exact⟨zX (by simp [zK] <;> omega),trivial⟩
  ·exact trivial
  cbv
  refine qC rfl ?_ rfl
  rw[List.take_of_length_le (Nat.le_refl _)] at h3
  refine zP ?_
  rw[h3,hv,hv2]
end Go.Proofs.YtgcpehdkdnkgeaaGreat
