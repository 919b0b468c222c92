/- A part of the proof: NtA, NtB, NtC, NtD, PnB. -/
import Derived.Test.YtfainocfaddbdaaGreatX14
set_option linter.all false
namespace Go.Proofs.YtfainocfaddbdaaGreat
open Go
set_option maxRecDepth 100000
theorem j2 (l:List UInt32)(hl:l.length<2^44):zD 160 [nat l] (nat (zE (val l))):=by
 refine sF Tryz.f160 ?_
 cbv
 refine z9 (σ:=Nat) (fun n=>⟨[(0,nat l),(2,.nil),(3,.int .i64 (fun _=>(n:Int)))],[]⟩) (fun n=>n≤l.length∧val (l.take n)=val l) (fun n=>n) l.length ⟨Nat.le_refl _,by simp⟩ (.le ?_ trivial rfl) ?_
 ·cbv
  exact⟨lR,lR,zC (by simp [zH]),trivial⟩
 intro n hn
 cbv
 refine yG (fun h=>?_) (fun h=>?_)
 ·(try dsimp only [zL] at *)
  obtain⟨m,rfl⟩:∃ m,n=m+1:=⟨n - 1,by omega⟩
  cbv
  refine⟨zF om om,y7 m om om ?_⟩
  cbv
  refine zG (fun h2=>?_) (fun h2=>?_)
  ·cbv
   refine⟨zF om om,m,⟨om,?_⟩,om,.le ?_ trivial rfl⟩
   ·have e:l.getD m 0=0:=by
     have:(l.getD m 0).toNat=0:=om
     exact UInt32.toNat_inj.1 this
    rw[←hn.2,jN l (by omega),e,zAG]
   ·cbv
    exact⟨lR,lR,zC om,trivial⟩
  ·cbv
   refine zG (fun h3=>om) (fun h3=>?_)
   cbv
   refine⟨aY om om om,r9 l,?_⟩
   cbv
   refine qL rfl ?_ rfl
   refine zX ?_
   have e:l.getD m 0≠0:=fun e=>by (try dsimp only [zL] at *);rw[e] at h2;exact h2 rfl
   simp only[zG0,zG1]
   rw[←hn.2,sI (by rw[jN l (by omega),pJ];simpa using e)]
   rfl
 ·cbv
  refine zG (fun h3=>?_) (fun h3=>om)
  cbv
  refine qL rfl ?_ rfl
  refine zQ ?_
  have:n=0:=om
  subst this
  rw[←hn.2]
  simp [val,zZ,lm]
theorem ty34:ty 25=.sli 1 4 [.int .u32 (fun _=>0)]:=by cbv
theorem s230 (l:List UInt32)(hl:l.length<2^40):zD 168 [nat l] (nat l):=by
 refine sF Tryz.f168 ?_
 cbv
 refine⟨fun b hb=>?_⟩
 cbv
 refine yA (fun h=>?_) (fun h=>?_)
 ·cbv
  refine qL rfl ?_ rfl
  exact zQ (hb h)
 ·cbv
  refine wL ty34 rfl rfl rfl rfl rfl (r9 l) (yJ om (by simp only[List.length_nil];(try dsimp only [zL] at *) <;> (try simp only[zH] at *) <;> omega)) rfl ?_
  cbv
  refine retW (.frz 7 rfl rfl ?_ ?_) rfl ?_ rfl
  ·cbv
   exact⟨yD (by simp),yD (by simp),trivial⟩
  ·exact trivial
  ·refine zX ?_
   simp
theorem s223 (l:List UInt32)(hl:l.length<2^40):zD 162 [nat l] (nat (zE (val l))):=by
 refine sF Tryz.f162 ?_
 cbv
 refine cA (j2 l (by omega)) ?_
 cbv
 refine cA (s230 _ (Nat.lt_of_le_of_lt (zV l) hl)) ?_
 cbv
 refine qL rfl ?_ rfl
 exact lR
theorem bM {l:List UInt32}(h:l≠[]):hH l=(l.getD (l.length - 1) 0 != 0):=by
 have:l=l.dropLast++[l.getD (l.length - 1) 0]:=by
  rw[List.getD_eq_getElem?_getD,←List.getLast?_eq_getElem?,List.getLast?_eq_some_getLast h]
  exact (List.dropLast_concat_getLast h).symm
 rw[this,pJ]
 simp
theorem zL7 (x:UInt32):(x != 0)=!decide ((x.toNat:Int)=0):=by
 rw[Bool.eq_iff_iff]
 simp only[bne_iff_ne,ne_eq,Bool.not_eq_true',decide_eq_false_iff_not]
 constructor
 ·intro h e
  exact h (UInt32.toNat_inj.1 (by simpa using e))
 ·intro h e
  exact h (by rw[e];rfl)
theorem s160 (l:List UInt32)(hl:l.length<2^40):zD 154 [nat l] (.bool (fun _=>hH l)):=by
 refine sF Tryz.f154 ?_
 cbv
 refine yG (fun h=>?_) (fun h=>?_)
 ·cbv
  refine qL rfl ?_ rfl
  refine zS ?_
  have:l=[]:=List.eq_nil_of_length_eq_zero om
  subst this
  rfl
 ·cbv
  refine⟨zF om om,y7 (l.length - 1) om om ?_⟩
  cbv
  refine qL rfl ?_ rfl
  refine kY ?_
  have hne:l≠[]:=fun e=>by subst e;exact h rfl
  rw[bM hne]
  exact zL7 _
theorem s211 (x:Nat)(hx:x<B * B):zD 142 [.int .u64 (fun _=>(x:Int))] (nat (zE x)):=by
 refine sF Tryz.f142 ?_
 cbv
 refine⟨wR (by omega),?_⟩
 refine xX rfl (by
  refine⟨zX ?_,trivial⟩
  have h1:ishr .u64 (x:Int) 32=((x / B:Nat):Int):=by
   unfold ishr
   simp [IntKind.bits,B,Int.fdiv_eq_ediv_of_nonneg]
  have h2:x / B<B:=Nat.div_lt_of_lt_mul hx
  simp only[yO,xG,toD,lm,List.map_cons,List.map_nil,zL,h1,kK,gU]
  rw[UInt32.toNat_ofNat',Nat.mod_eq_of_lt (show x / B<2 ^ 32 from h2)]
  simp only[B] at *
  congr 3
  ·congr 1;omega) (j2 [UInt32.ofNat (x % B),UInt32.ofNat (x / B)] (by simp)) rfl ?_
 cbv
 refine qL rfl ?_ rfl
 refine zX ?_
 have h2:x / B<B:=Nat.div_lt_of_lt_mul hx
 have:val [UInt32.ofNat (x % B),UInt32.ofNat (x / B)]=x:=by
  simp only[val,gU]
  rw[UInt32.toNat_ofNat',Nat.mod_eq_of_lt (show x / B<2 ^ 32 from h2),Nat.mul_zero,Nat.add_zero]
  exact Nat.mod_add_div x B
 rw[this]
theorem s162 (a b:List UInt32)(ha:a.length<2^40)(hb:b.length<2^40):zD 156 [nat a,nat b] (.int .i64 (fun _=>vM (val a) (val b))):=by
 refine sF Tryz.f156 ?_
 cbv
 refine cA (j2 a (by omega)) ?_
 cbv
 refine cA (j2 b (by omega)) ?_
 cbv
 have ha':=Nat.lt_of_le_of_lt (zV a) ha
 have hb':=Nat.lt_of_le_of_lt (zV b) hb
 refine zG (fun h=>?_) (fun h=>?_)
 ·cbv
  have hl:(zE (val a)).length=(zE (val b)).length:=om
  refine⟨zF om om,?_⟩
  refine z9 (σ:=Nat) (fun n=>⟨[(0,nat (zE (val a))),(1,nat (zE (val b))),(5,.int .i64 (fun _=>(n:Int) - 1))],[]⟩) (fun n=>n≤(zE (val a)).length∧(zE (val a)).drop n=(zE (val b)).drop n) (fun n=>n) (zE (val a)).length ⟨Nat.le_refl _,by simp [hl]⟩ (.le ?_ trivial rfl) ?_
  ·cbv
   exact⟨lR,lR,zC om,trivial⟩
  intro n hn
  cbv
  refine zG (fun h2=>?_) (fun h2=>?_)
  ·(try dsimp only [zL] at *)
   obtain⟨m,rfl⟩:∃ m,n=m+1:=⟨n - 1,by omega⟩
   cbv
   refine zY 9 (by cbv) ?_
   cbv
   refine y7 m om om ?_
   cbv
   refine y7 m om om ?_
   cbv
   refine zG (fun h3=>?_) (fun h3=>?_)
   ·cbv
    refine⟨zF om om,m,⟨om,?_⟩,om,.le ?_ trivial rfl⟩
    ·(try dsimp only [zL] at *)
     have e:(zE (val a)).getD m 0=(zE (val b)).getD m 0:=UInt32.toNat_inj.1 (by omega)
     rw[List.drop_eq_getElem_cons (by omega:m<(zE (val a)).length),List.drop_eq_getElem_cons (by omega:m<(zE (val b)).length),hn.2]
     congr 1
     simpa [show m<(zE (val a)).length by omega,show m<(zE (val b)).length by omega] using e
    ·cbv
     exact⟨lR,lR,zC om,trivial⟩
   ·cbv
    refine zY 9 (by cbv) ?_
    cbv
    refine y7 m om om ?_
    cbv
    refine y7 m om om ?_
    cbv
    refine zG (fun h4=>?_) (fun h4=>?_)
    ·cbv
     refine qL rfl ?_ rfl
     refine zC ?_
     have:=zLJ (a:=zE (val a)) (b:=zE (val b)) (m:=m) om om hn.2 om
     rw[zN,zN] at this
     rw[lV this]
    ·cbv
     refine qL rfl ?_ rfl
     refine zC ?_
     have:=zLJ (a:=zE (val b)) (b:=zE (val a)) (m:=m) om om hn.2.symm om
     rw[zN,zN] at this
     rw[lW this]
  ·cbv
   refine qL rfl ?_ rfl
   refine zC ?_
   have h0:n=0:=om
   subst h0
   have e:zE (val a)=zE (val b):=by simpa using hn.2
   have:val a=val b:=by rw[←zN (val a),e,zN]
   rw[this,zB8]
 ·cbv
  refine zG (fun h2=>?_) (fun h2=>?_)
  ·cbv
   refine qL rfl ?_ rfl
   refine zC ?_
   rw[lV (mG om)]
  ·cbv
   refine qL rfl ?_ rfl
   refine zC ?_
   rw[lW (mG om)]
theorem zLB (l:List UInt32)(i:Nat)(x:UInt32):(lm l).set i [.int .u32 x.toNat]=lm (l.set i x):=by
 simp [lm,List.map_set]
theorem fV (n:Nat):ishr .u64 (n:Int) 32=((n / B:Nat):Int):=by
 unfold ishr
 simp [IntKind.bits,B,Int.fdiv_eq_ediv_of_nonneg]
theorem kX (out:List UInt32){k j:Nat}(hk:k=j)(d:Nat):(lm out).set k [.int .u32 (nx .u32 ((d:Nat):Int))]=lm (out.set j (UInt32.ofNat d)):=by
 subst hk
 rw[←zLB,xE,kK]
 simp [B]
theorem s221 (a b:List UInt32)(ha:a.length<2^40)(hb:b.length<2^40):zD 176 [nat a,nat b] (nat (zE (val a+val b))):=by
 refine sF Tryz.f176 ?_
 cbv
 refine cA (j2 a (by omega)) ?_
 cbv
 refine cA (j2 b (by omega)) ?_
 cbv
 have ha':=Nat.lt_of_le_of_lt (zV a) ha
 have hb':=Nat.lt_of_le_of_lt (zV b) hb
 refine j9 (σ:=List UInt32 × List UInt32) (fun s=>⟨[(0,nat s.1),(1,nat s.2),(4,.nil)],[]⟩) (fun s=>s.2.length≤s.1.length∧s.1.length<2^40∧val s.1+val s.2=val a+val b) (fun h=>?_) (fun h=>?_) ?_
 ·cbv
  refine⟨(zE (val b),zE (val a)),⟨om,hb',by simp only[zN];omega⟩,.le ?_ trivial rfl⟩
  cbv
  exact okA
 ·cbv
  refine⟨(zE (val a),zE (val b)),⟨om,ha',by simp only[zN]⟩,.le ?_ trivial rfl⟩
  cbv
  exact okA
 intro s hs
 obtain⟨hpq,hp,hv⟩:=hs
 generalize s.1=p at *
 generalize s.2=q at *
 cbv
 refine⟨zF om om,yJ om om,wP om om,?_⟩
 cbv
 refine z9 (σ:=Nat × Nat × List UInt32) (fun s=>⟨[(0,nat p),(1,nat q),(5,.osl 23 1 (fun _=>0) (fun _=>p.length+1)),(6,.int .u64 (fun _=>(s.2.1:Int))),(24,nat p),(25,.int .i64 (fun _=>(p.length:Int))),(26,.int .i64 (fun _=>(s.1:Int)))],[(23,.arr 1 (fun _=>lm s.2.2))]⟩)
  (fun s=>s.1≤p.length∧s.2.1<2∧s.2.2.length=p.length+1∧val (s.2.2.take s.1)+B ^ s.1 * s.2.1=val (p.take s.1)+val (q.take s.1)) (fun s=>p.length - s.1)
  (0,0,List.replicate (p.length+1) 0) ⟨om,om,by simp,by simp [val]⟩ (.le ?_ ?_ rfl) ?_
 ·cbv
  exact⟨lR,lR,yC rfl om,lR,lR,zC om,lR,trivial⟩
 ·cbv
  refine⟨zB ?_,trivial⟩
  show List.replicate (((lm p).length:Int)+1).toNat _=_
  have:(((lm p).length:Int)+1).toNat=p.length+1:=by rw[zH];omega
  rw[this]
  simp [lm,xG,toD]
 intro s hs
 obtain⟨h1,h2,h3,h4⟩:=hs
 generalize s.1=i at *
 generalize s.2.1=c at *
 generalize s.2.2=out at *
 cbv
 refine zG (fun h5=>?_) (fun h5=>?_)
 ·cbv
  refine y7 i om om ?_
  cbv
  have hpi:=yH (p.getD i 0)
  have hqi:=yH (q.getD i 0)
  simp only[B] at hpi hqi
  refine j9 (σ:=Unit) (fun _=>⟨[(0,nat p),(1,nat q),(5,.osl 23 1 (fun _=>0) (fun _=>p.length+1)),(6,.int .u64 (fun _=>((c+(p.getD i 0).toNat+(q.getD i 0).toNat:Nat):Int))),(7,.int .i64 (fun _=>(i:Int))),(24,nat p),(25,.int .i64 (fun _=>(p.length:Int))),(26,.int .i64 (fun _=>(i:Int)))],[(23,.arr 1 (fun _=>lm out))]⟩) (fun _=>True) (fun h6=>?_) (fun h6=>?_) ?_
  ·cbv
   refine y7 i om om ?_
   cbv
   refine⟨(),trivial,.le ?_ ?_ rfl⟩
   ·cbv
    refine⟨lR,lR,lR,zC ?_,lR,lR,lR,lR,trivial⟩
    (try dsimp only [zL] at *)
    simp only[wU]
    omega
   ·cbv
    exact⟨zB rfl,trivial⟩
  ·cbv
   refine⟨(),trivial,.le ?_ ?_ rfl⟩
   ·cbv
    refine⟨lR,lR,lR,zC ?_,lR,lR,lR,lR,trivial⟩
    have:(q.getD i 0).toNat=0:=by
     have:q.length≤i:=om
     simp [List.getElem?_eq_none this]
    (try dsimp only [zL] at *)
    simp only[wU]
    omega
   ·cbv
    exact⟨zB rfl,trivial⟩
  intro _ _
  generalize hd:c+(p.getD i 0).toNat+(q.getD i 0).toNat=d
  cbv
  refine⟨zR om om,qY i (by simp) om ?_⟩
  cbv
  refine⟨wR (by omega),zF om om,(i+1,d / B,out.set i (UInt32.ofNat d)),⟨om,?_,by simpa using h3,?_⟩,om,.le ?_ ?_ rfl⟩
  ·show d / B<2
   simp only[B]
   omega
  ·show val ((out.set i (UInt32.ofNat d)).take (i+1))+B ^ (i+1) * (d / B)=val (p.take (i+1))+val (q.take (i+1))
   rw[vA _ om,zT p,zT q,xE]
   have e1:B ^ i * (d % B)+B ^ (i+1) * (d / B)=B ^ i * d:=by
    rw[Nat.pow_succ,Nat.mul_assoc,←Nat.mul_add,Nat.mod_add_div]
   have e2:B ^ i * d=B ^ i * c+B ^ i * (p.getD i 0).toNat+B ^ i * (q.getD i 0).toNat:=by rw[←hd,Nat.mul_add,Nat.mul_add]
   omega
  ·cbv
   refine⟨lR,lR,lR,zC (fV d),lR,lR,zC om,trivial⟩
  ·cbv
   exact⟨zB (kX out (by simp) d),trivial⟩
 ·cbv
  refine⟨zR om om,qY p.length (by simp [zH]) om ?_⟩
  cbv
  have hi:i=p.length:=om
  subst hi
  refine qJ (.trans (.le (ps':=⟨[(60,.osl 23 1 (fun _=>0) (fun _=>p.length+1))],[(23,.arr 1 (fun _=>lm (out.set p.length (UInt32.ofNat c))))]⟩) ?_ ?_ rfl) (.frz 23 rfl rfl ?_ ?_)) rfl (by refine⟨zX ?_,trivial⟩;exact List.take_of_length_le (by simp [zH] <;> omega)) (j2 (out.set p.length (UInt32.ofNat c)) (by simp;omega)) rfl ?_
  ·cbv
   exact okA
  ·cbv
   exact⟨zB (kX out (by simp [zH]) c),trivial⟩
  ·cbv
   exact⟨yD (by simp [zH];omega),trivial⟩
  ·exact trivial
  cbv
  refine qL rfl ?_ rfl
  refine zX ?_
  congr 2
  have e:=vA out (n:=p.length) (by omega) (UInt32.ofNat c)
  rw[List.take_of_length_le (by simp;omega),xE,Nat.mod_eq_of_lt (show c<B by simp only[B];omega),h4,List.take_of_length_le (Nat.le_refl _),List.take_of_length_le hpq] at e
  omega
theorem kW (out:List UInt32){k j:Nat}(hk:k=j){z:Int}{w:Nat}(hz:z=(w:Int))(hw:w<B):(lm out).set k [.int .u32 z]=lm (out.set j (UInt32.ofNat w)):=by
 subst hk hz
 rw[←zLB,xE,Nat.mod_eq_of_lt hw]
theorem zLD (z:Int):ishr .u64 z 63=z / 9223372036854775808:=by
 unfold ishr
 simp [IntKind.bits,Int.fdiv_eq_ediv_of_nonneg]
theorem s222 (a b:List UInt32)(ha:a.length<2^40)(hb:b.length<2^40):zD 177 [nat a,nat b] (.tup [nat (zE (val a - val b)),.int .i64 (fun _=>if val b≤val a then 0 else 2)]):=by
 refine sF Tryz.f177 ?_
 cbv
 refine cA (j2 a (by omega)) ?_
 cbv
 refine cA (j2 b (by omega)) ?_
 cbv
 have ha':=Nat.lt_of_le_of_lt (zV a) ha
 have hb':=Nat.lt_of_le_of_lt (zV b) hb
 refine cA (s162 _ _ ha' hb') ?_
 cbv
 simp only[zN]
 refine zG (fun h=>?_) (fun h=>?_)
 ·have h':val a<val b:=by
   rcases Nat.lt_trichotomy (val a) (val b) with h1 | h1 | h1
   ·exact h1
   ·rw[h1,zB8] at h;omega
   ·rw[lW h1] at h;omega
  cbv
  refine qL rfl ?_ rfl
  refine⟨zQ ?_,zC ?_,trivial⟩
  ·rw[Nat.sub_eq_zero_of_le (by omega),zZ];rfl
  ·rw[if_neg (by omega)]
 have hle:val b≤val a:=by
  rcases Nat.lt_or_ge (val a) (val b) with h1 | h1
  ·rw[lV h1] at h;omega
  ·exact h1
 have hv:val (zE (val a))=val a:=zN _
 have hv2:val (zE (val b))=val b:=zN _
 have hpq:(zE (val b)).length≤(zE (val a)).length:=by
  rcases Nat.lt_or_ge (zE (val a)).length (zE (val b)).length with h1 | h1
  ·have:=mG h1;omega
  ·exact h1
 generalize zE (val a)=p at *
 generalize zE (val b)=q at *
 cbv
 refine⟨yJ om om,wP om om,?_⟩
 cbv
 refine z9 (σ:=Nat × Nat × List UInt32) (fun s=>⟨[(0,nat p),(1,nat q),(6,.osl 21 1 (fun _=>0) (fun _=>p.length)),(7,.int .u64 (fun _=>(s.2.1:Int))),(22,nat p),(23,.int .i64 (fun _=>(p.length:Int))),(24,.int .i64 (fun _=>(s.1:Int)))],[(21,.arr 1 (fun _=>lm s.2.2))]⟩)
  (fun s=>s.1≤p.length∧s.2.1<2∧s.2.2.length=p.length∧val (s.2.2.take s.1)+val (q.take s.1)=val (p.take s.1)+B ^ s.1 * s.2.1) (fun s=>p.length - s.1)
  (0,0,List.replicate p.length 0) ⟨om,om,by simp,by simp [val]⟩ (.le ?_ ?_ rfl) ?_
 ·cbv
  exact⟨lR,lR,yC rfl om,lR,lR,zC om,lR,trivial⟩
 ·cbv
  refine⟨zB ?_,trivial⟩
  show List.replicate (((lm p).length:Int)).toNat _=_
  have:(((lm p).length:Int)).toNat=p.length:=by rw[zH];omega
  rw[this]
  simp [lm,xG,toD]
 intro s hs
 obtain⟨h1,h2,h3,h4⟩:=hs
 generalize s.1=i at *
 generalize s.2.1=c at *
 generalize s.2.2=out at *
 cbv
 refine zG (fun h5=>?_) (fun h5=>?_)
 ·cbv
  refine y7 i om om ?_
  cbv
  have hpi:=yH (p.getD i 0)
  have hqi:=yH (q.getD i 0)
  simp only[B] at hpi hqi
  refine j9 (σ:=Unit) (fun _=>⟨[(0,nat p),(1,nat q),(6,.osl 21 1 (fun _=>0) (fun _=>p.length)),(10,.int .u64 (fun _=>nx .u64 (((p.getD i 0).toNat:Int) - (c:Int) - ((q.getD i 0).toNat:Int)))),(8,.int .i64 (fun _=>(i:Int))),(22,nat p),(23,.int .i64 (fun _=>(p.length:Int))),(24,.int .i64 (fun _=>(i:Int)))],[(21,.arr 1 (fun _=>lm out))]⟩) (fun _=>True) (fun h6=>?_) (fun h6=>?_) ?_
  ·cbv
   refine y7 i om om ?_
   cbv
   refine⟨(),trivial,.le ?_ ?_ rfl⟩
   ·cbv
    refine⟨lR,lR,lR,zC ?_,lR,lR,lR,lR,trivial⟩
    (try dsimp only [zL] at *)
    simp only[wU]
    omega
   ·cbv
    exact⟨zB rfl,trivial⟩
  ·cbv
   refine⟨(),trivial,.le ?_ ?_ rfl⟩
   ·cbv
    refine⟨lR,lR,lR,zC ?_,lR,lR,lR,lR,trivial⟩
    have:(q.getD i 0).toNat=0:=by
     have:q.length≤i:=om
     simp [List.getElem?_eq_none this]
    (try dsimp only [zL] at *)
    simp only[wU]
    omega
   ·cbv
    exact⟨zB rfl,trivial⟩
  intro _ _
  obtain⟨w,c',hw,hc',he⟩:∃ w c':Nat,w<B∧c'<2∧(p.getD i 0).toNat+B * c'=w+c+(q.getD i 0).toNat:=by
   simp only[B]
   by_cases hlt:(p.getD i 0).toNat<c+(q.getD i 0).toNat
   ·exact⟨(p.getD i 0).toNat+4294967296 - c - (q.getD i 0).toNat,1,by omega,by omega,by omega⟩
   ·exact⟨(p.getD i 0).toNat - c - (q.getD i 0).toNat,0,by omega,by omega,by omega⟩
  have hz:nx .u64 (((p.getD i 0).toNat:Int) - (c:Int) - ((q.getD i 0).toNat:Int))=if c'=0 then (w:Int) else (w:Int)+18446744069414584320:=by
   rw[wU]
   simp only[B] at *
   split <;> omega
  simp only[hz]
  cbv
  refine⟨zR om om,qY i (by simp) om ?_⟩
  cbv
  refine⟨wR (by omega),zF om om,(i+1,c',out.set i (UInt32.ofNat w)),⟨om,hc',by simpa using h3,?_⟩,om,.le ?_ ?_ rfl⟩
  ·show val ((out.set i (UInt32.ofNat w)).take (i+1))+val (q.take (i+1))=val (p.take (i+1))+B ^ (i+1) * c'
   rw[vA _ om,zT p,zT q,xE,Nat.mod_eq_of_lt hw]
   have e1:B ^ i * (p.getD i 0).toNat+B ^ (i+1) * c'=B ^ i * w+B ^ i * c+B ^ i * (q.getD i 0).toNat:=by
    rw[Nat.pow_succ,Nat.mul_assoc,←Nat.mul_add,he,Nat.mul_add,Nat.mul_add]
   omega
  ·cbv
   refine⟨lR,lR,lR,zC ?_,lR,lR,zC om,trivial⟩
   rw[zLD]
   show (if c'=0 then (w:Int) else (w:Int)+18446744069414584320) / 9223372036854775808=(c':Int)
   simp only[B] at hw
   split <;> omega
  ·cbv
   refine⟨zB (kW out (by simp) ?_ hw),trivial⟩
   show nx .u32 (if c'=0 then (w:Int) else (w:Int)+18446744069414584320)=(w:Int)
   rw[kK]
   simp only[B] at hw
   split <;> omega
 ·cbv
  have hi:i=p.length:=om
  subst hi
  refine qJ (.trans (.le (ps':=⟨[(52,.osl 21 1 (fun _=>0) (fun _=>p.length))],[(21,.arr 1 (fun _=>lm out))]⟩) ?_ ?_ rfl) (.frz 21 rfl rfl ?_ ?_)) rfl (by refine⟨zX ?_,trivial⟩;exact List.take_of_length_le (by simp [zH] <;> omega)) (j2 out (by omega)) rfl ?_
  ·cbv
   exact okA
  ·cbv
   exact⟨zB rfl,trivial⟩
  ·cbv
   exact⟨yD (by simp [zH] <;> omega),trivial⟩
  ·exact trivial
  cbv
  refine qL rfl ?_ rfl
  rw[List.take_of_length_le (by omega),List.take_of_length_le hpq,List.take_of_length_le (Nat.le_refl _)] at h4
  have hlo:=xJ out
  have hlq:=xJ q
  have hc0:c=0:=by
   rcases Nat.eq_zero_or_pos c with h6 | h6
   ·exact h6
   ·exfalso
    have:c=1:=by omega
    subst this
    rw[h3] at hlo
    omega
  subst hc0
  refine⟨zX ?_,zC ?_,trivial⟩
  ·congr 2;omega
  ·rw[if_pos hle]
theorem xK {n:Nat}(h:n<18446744073709551616):nx .u64 (n:Int)=(n:Int):=by rw[wU];omega
theorem s194 (a b:List UInt32)(ha:a.length<2^40)(hb:b.length<2^40):zD 139 [nat a,nat b] (nat (zE (val a * val b))):=by
 refine sF Tryz.f139 ?_
 cbv
 refine cA (j2 a (by omega)) ?_
 cbv
 refine cA (j2 b (by omega)) ?_
 cbv
 have ha':=Nat.lt_of_le_of_lt (zV a) ha
 have hb':=Nat.lt_of_le_of_lt (zV b) hb
 have hv:val (zE (val a))=val a:=zN _
 have hv2:val (zE (val b))=val b:=zN _
 generalize zE (val a)=p at *
 generalize zE (val b)=q at *
 
 refine yG (fun h=>?_) (fun h=>?_)
 ·cbv
  refine qL rfl ?_ rfl
  refine zQ ?_
  have:p=[]:=List.eq_nil_of_length_eq_zero om
  subst this
  rw[←hv]
  simp [val,zZ,lm]
 cbv
 refine zG (fun h'=>?_) (fun h'=>?_)
 ·cbv
  refine qL rfl ?_ rfl
  refine zQ ?_
  have:q=[]:=List.eq_nil_of_length_eq_zero om
  subst this
  rw[←hv2]
  simp [val,zZ,lm]
 cbv
 refine⟨zF om om,yJ om om,wP om om,?_⟩
 cbv
 refine z9 (σ:=Nat × List UInt32) (fun s=>⟨[(0,nat p),(1,nat q),(5,.osl 28 1 (fun _=>0) (fun _=>p.length+q.length)),(29,nat p),(30,.int .i64 (fun _=>(p.length:Int))),(31,.int .i64 (fun _=>(s.1:Int)))],[(28,.arr 1 (fun _=>lm s.2))]⟩)
  (fun s=>s.1≤p.length∧s.2.length=p.length+q.length∧val s.2=val (p.take s.1) * val q∧∀ j,s.1+q.length≤j→s.2.getD j 0=0) (fun s=>p.length - s.1)
  (0,List.replicate (p.length+q.length) 0) ⟨om,by simp,by simp [val,kT],fun j _=>by simp only[List.getD_eq_getElem?_getD,List.getElem?_replicate];split <;> rfl⟩ (.le ?_ ?_ rfl) ?_
 ·cbv
  exact⟨lR,lR,yC rfl om,lR,zC om,lR,trivial⟩
 ·cbv
  refine⟨zB ?_,trivial⟩
  show List.replicate (((lm p).length:Int)+((lm q).length:Int)).toNat _=_
  have:(((lm p).length:Int)+((lm q).length:Int)).toNat=p.length+q.length:=by rw[zH,zH];omega
  rw[this]
  simp [lm,xG,toD]
 intro s hs
 obtain⟨h1,h2,h3,h4⟩:=hs
 generalize s.1=i at *
 generalize s.2=out at *
 cbv
 refine zG (fun h5=>?_) (fun h5=>?_)
 ·cbv
  refine y7 i om om ?_
  cbv
  have hx:=yH (p.getD i 0)
  generalize hpx:(p.getD i 0).toNat=x at *
  refine z9 (σ:=Nat × Nat × List UInt32) (fun s=>⟨[(0,nat p),(1,nat q),(5,.osl 28 1 (fun _=>0) (fun _=>p.length+q.length)),(29,nat p),(30,.int .i64 (fun _=>(p.length:Int))),(31,.int .i64 (fun _=>(i:Int))),(6,.int .i64 (fun _=>(i:Int))),(7,.int .u32 (fun _=>(x:Int))),(8,.int .u64 (fun _=>(s.2.1:Int))),(36,nat q),(37,.int .i64 (fun _=>(q.length:Int))),(38,.int .i64 (fun _=>(s.1:Int)))],[(28,.arr 1 (fun _=>lm s.2.2))]⟩)
   (fun s=>s.1≤q.length∧s.2.1<B∧s.2.2.length=p.length+q.length∧val s.2.2+B ^ (i+s.1) * s.2.1=val (p.take i) * val q+B ^ i * (x * val (q.take s.1))∧∀ j,i+q.length≤j→s.2.2.getD j 0=0) (fun s=>q.length - s.1)
   (0,0,out) ⟨om,xS,h2,by simp [val,h3],h4⟩ (.le ?_ ?_ rfl) ?_
  ·cbv
   exact⟨lR,lR,lR,lR,lR,lR,lR,lR,lR,lR,zC om,lR,trivial⟩
  ·cbv
   exact⟨zB rfl,trivial⟩
  intro s hs
  obtain⟨g1,g2,g3,g4,g5⟩:=hs
  generalize s.1=k at *
  generalize s.2.1=c at *
  generalize s.2.2=out' at *
  cbv
  refine zG (fun h6=>?_) (fun h6=>?_)
  ·cbv
   refine y7 k om om ?_
   cbv
   have hik:0+((i:Int)+(k:Int)).toNat=i+k:=by omega
   refine⟨zF om om,zR om om,qY (i+k) hik om ?_⟩
   cbv
   refine⟨zF om om,zR om om,qY (i+k) hik om ?_⟩
   cbv
   have hy:=yH (q.getD k 0)
   have ho:=yH (out'.getD (i+k) 0)
   have hset:=dE out' (j:=i+k) om (UInt32.ofNat (c+(x * (q.getD k 0).toNat+(out'.getD (i+k) 0).toNat)))
   have htk:=zT q k
   generalize hqy:(q.getD k 0).toNat=y at *
   generalize hoo:(out'.getD (i+k) 0).toNat=o at *
   have hm:x * y≤4294967295 * 4294967295:=Nat.mul_le_mul (by simp only[B] at hx;omega) (by simp only[B] at hy;omega)
   have hB:B=4294967296:=rfl
   have hT:nx .u64 ((c:Int)+nx .u64 (nx .u64 (nx .u64 (x:Int) * nx .u64 (y:Int))+nx .u64 (o:Int)))=((c+(x * y+o):Nat):Int):=by
    rw[xK (n:=x) (by omega),xK (n:=y) (by omega),xK (n:=o) (by omega),←Int.natCast_mul,xK (n:=x * y) (by omega),←Int.natCast_add,xK (n:=x * y+o) (by omega),←Int.natCast_add,xK (by omega)]
   refine⟨wR (by omega),zF om om,(k+1,(c+(x * y+o)) / B,out'.set (i+k) (UInt32.ofNat (c+(x * y+o)))),⟨om,?_,by simpa using g3,?_,?_⟩,om,.le ?_ ?_ rfl⟩
   ·show (c+(x * y+o)) / B<B
    exact Nat.div_lt_of_lt_mul (by have:B * B=18446744073709551616:=rfl;omega)
   ·show val (out'.set (i+k) (UInt32.ofNat (c+(x * y+o))))+B ^ (i+(k+1)) * ((c+(x * y+o)) / B)=val (p.take i) * val q+B ^ i * (x * val (q.take (k+1)))
    rw[htk]
    rw[xE] at hset
    have e0:∀ t,B ^ (i+k) * (t % B)+B ^ (i+(k+1)) * (t / B)=B ^ (i+k) * t:=by
     intro t
     have:i+(k+1)=(i+k)+1:=by omega
     rw[this,Nat.pow_succ,Nat.mul_assoc,←Nat.mul_add,Nat.mod_add_div]
    have e1:=e0 (c+(x * y+o))
    have e3:B ^ (i+k) * (c+(x * y+o))=B ^ (i+k) * c+B ^ (i+k) * (x * y)+B ^ (i+k) * o:=by rw[Nat.mul_add,Nat.mul_add];omega
    have e2:B ^ i * (x * (val (q.take k)+B ^ k * y))=B ^ i * (x * val (q.take k))+B ^ (i+k) * (x * y):=by
     rw[Nat.mul_add,Nat.mul_add,Nat.pow_add]
     congr 1
     rw[Nat.mul_left_comm x,Nat.mul_assoc]
    omega
   ·intro j hj
    show (out'.set (i+k) _).getD j 0=0
    rw[fW _ _ _ _ om]
    exact g5 j hj
   ·cbv
    refine⟨lR,lR,lR,lR,lR,lR,lR,lR,zC ?_,lR,lR,zC om,trivial⟩
    exact (congrArg (fun z=>ishr .u64 z 32) hT).trans (fV _)
   ·cbv
    refine⟨zB ?_,trivial⟩
    exact (congrArg (fun z=>(lm out').set (0+((i:Int)+(k:Int)).toNat) [.int .u32 (nx .u32 z)]) hT).trans (kX out' hik _)
  ·cbv
   have hkq:k=q.length:=om
   subst hkq
   have hlq:0+((i:Int)+((lm q).length:Int)).toNat=i+q.length:=by rw[zH];omega
   refine⟨zF om om,zR om om,qY (i+q.length) hlq om ?_⟩
   cbv
   refine⟨zF om om,(i+1,out'.set (i+q.length) (UInt32.ofNat c)),⟨om,by simpa using g3,?_,?_⟩,om,.le ?_ ?_ rfl⟩
   ·show val (out'.set (i+q.length) (UInt32.ofNat c))=val (p.take (i+1)) * val q
    have hset:=dE out' (j:=i+q.length) om (UInt32.ofNat c)
    rw[g5 _ (Nat.le_refl _),xE,Nat.mod_eq_of_lt g2] at hset
    rw[List.take_of_length_le (Nat.le_refl _)] at g4
    rw[zT p,hpx,Nat.add_mul,Nat.mul_assoc]
    simp only[UInt32.toNat_zero,Nat.mul_zero,Nat.add_zero] at hset
    omega
   ·intro j hj
    show (out'.set (i+q.length) _).getD j 0=0
    have hj':i+1+q.length≤j:=hj
    rw[fW _ _ _ _ (by omega)]
    exact g5 j (by omega)
   ·cbv
    exact⟨lR,lR,lR,lR,lR,zC om,trivial⟩
   ·cbv
    exact⟨zB (kX out' hlq c),trivial⟩
 ·cbv
  have hip:i=p.length:=om
  subst hip
  refine qJ (.trans (.le (ps':=⟨[(77,.osl 28 1 (fun _=>0) (fun _=>p.length+q.length))],[(28,.arr 1 (fun _=>lm out))]⟩) ?_ ?_ rfl) (.frz 28 rfl rfl ?_ ?_)) rfl (by refine⟨zX ?_,trivial⟩;exact List.take_of_length_le (by simp [zH] <;> omega)) (j2 out (by omega)) rfl ?_
  ·cbv
   exact okA
  ·cbv
   exact⟨zB rfl,trivial⟩
  ·cbv
   exact⟨yD (by simp [zH] <;> omega),trivial⟩
  ·exact trivial
  cbv
  refine qL rfl ?_ rfl
  rw[List.take_of_length_le (Nat.le_refl _)] at h3
  refine zX ?_
  rw[h3,hv,hv2]
end Go.Proofs.YtfainocfaddbdaaGreat
namespace Go.Proofs.YtfainocfaddbdaaGreat
def pad (n m:Nat):List UInt32:=zE n++List.replicate (m - (zE n).length) 0
theorem zF5 {l:List UInt32}{n m:Nat}(hl:l.length=m)(hv:val l=n):l=pad n m:=by
 have h1:(zE n).length≤m:=by rw[←hv,←hl];exact zV l
 refine lD ?_ ?_
 ·simp [pad];omega
 ·rw[pad,wF,kT,zN,hv];omega
theorem fQ {n m:Nat}(h:n<B ^ m):(pad n m).length=m:=by
 have:=z6 h
 simp [pad];omega
theorem pO (n m:Nat):val (pad n m)=n:=by rw[pad,wF,kT,zN];omega
theorem zJB {l:List UInt32}{n:Nat}(hl:l.length=n+2):val l=val (l.take n)+B ^ n * ((l.getD (n+1) 0).toNat * B+(l.getD n 0).toNat):=by
 have h1:=zT l n
 have h2:=zT l (n+1)
 rw[List.take_of_length_le (by omega)] at h2
 rw[h2,h1,Nat.pow_succ,Nat.mul_add,Nat.mul_assoc,Nat.mul_comm B]
 omega
theorem zJA {l:List UInt32}{n:Nat}(hl:l.length=n+3):val l=val (l.take n)+B ^ n * (((l.getD (n+2) 0).toNat * B+(l.getD (n+1) 0).toNat) * B+(l.getD n 0).toNat):=by
 have h1:=zT l n
 have h2:=zT l (n+1)
 have h3:=zT l (n+2)
 rw[List.take_of_length_le (by omega)] at h3
 rw[h3,h2,h1]
 have e:B ^ (n+2)=B ^ n * (B * B):=by rw[Nat.pow_succ,Nat.pow_succ,Nat.mul_assoc]
 rw[e,Nat.pow_succ,Nat.mul_add,Nat.add_mul,Nat.mul_add,Nat.mul_assoc,Nat.mul_assoc]
 rw[Nat.mul_comm (B * B),←Nat.mul_assoc (l.getD (n+2) 0).toNat,Nat.mul_comm B (l.getD (n+1) 0).toNat]
 omega
structure EstInv (U V P top v1 v2 u2:Nat) (q r:Nat):Prop where
 top:q * v1+r=top
 lo:U<(q+1) * V
theorem zKD {U V P top v1 v2 u2 ur vr:Nat}(hv1:0<v1)(hU:U=ur+P * (top * B+u2))(hV:V=vr+P * (v1 * B+v2))(hur:ur<P)(hu2:u2<B) :
  EstInv U V P top v1 v2 u2 (top / v1) (top % v1):=by
 refine⟨by rw[Nat.mul_comm];exact Nat.div_add_mod top v1,?_⟩
 have h1:top+1≤(top / v1+1) * v1:=by
  have:=Nat.div_add_mod top v1
  have:=Nat.mod_lt top hv1
  rw[Nat.add_mul,Nat.mul_comm (top / v1)]
  omega
 have h2:(top+1) * B≤(top / v1+1) * (v1 * B+v2):=by
  rw[Nat.mul_add,←Nat.mul_assoc]
  exact Nat.le_trans (Nat.mul_le_mul_right B h1) (Nat.le_add_right _ _)
 have h3:top * B+u2+1≤(top+1) * B:=by rw[Nat.add_mul];omega
 have h4:=Nat.mul_le_mul_left P (Nat.le_trans h3 h2)
 have h5:(top / v1+1) * V=(top / v1+1) * vr+P * ((top / v1+1) * (v1 * B+v2)):=by
  rw[hV,Nat.mul_add,Nat.mul_left_comm]
 have h6:P * (top * B+u2+1)=P * (top * B+u2)+P:=by rw[Nat.mul_add,Nat.mul_one]
 omega
theorem zKC {U V P top v1 v2 u2 ur vr q r:Nat}(hU:U=ur+P * (top * B+u2))(hV:V=vr+P * (v1 * B+v2))(hur:ur<P)
  (ht:q * v1+r=top) (h:r * B+u2<q * v2):U<q * V:=by
 have h1:top * B+u2+1≤q * (v1 * B+v2):=by
  rw[←ht,Nat.mul_add,Nat.add_mul,Nat.mul_assoc]
  omega
 have h2:=Nat.mul_le_mul_left P h1
 have h3:q * V=q * vr+P * (q * (v1 * B+v2)):=by rw[hV,Nat.mul_add,Nat.mul_left_comm]
 have h4:P * (top * B+u2+1)=P * (top * B+u2)+P:=by rw[Nat.mul_add,Nat.mul_one]
 omega
theorem zKB {U V P top v1 v2 u2 q r:Nat}(hq:0<q)(ht:q * v1+r=top)(h:U<q * V):EstInv U V P top v1 v2 u2 (q - 1) (r+v1):=by
 obtain⟨k,rfl⟩:∃ k,q=k+1:=⟨q - 1,by omega⟩
 refine⟨?_,by simpa using h⟩
 rw[←ht,Nat.add_sub_cancel,Nat.add_mul];omega
theorem zA7 {U V P top v1 v2 u2 ur vr q r:Nat}(hv1:0<v1)(hU:U=ur+P * (top * B+u2))(hV:V=vr+P * (v1 * B+v2))(hvr:vr<P)
  (ht:q * v1+r=top) (hq:q≤B) (h:q * v2≤r * B+u2):q * V≤U+V:=by
 have h1:q * (v1 * B+v2)≤top * B+u2:=by
  rw[←ht,Nat.mul_add,Nat.add_mul,Nat.mul_assoc]
  omega
 have h2:=Nat.mul_le_mul_left P h1
 have h3:q * V=q * vr+P * (q * (v1 * B+v2)):=by rw[hV,Nat.mul_add,Nat.mul_left_comm]
 have h4:q * vr≤B * P:=Nat.mul_le_mul hq (Nat.le_of_lt hvr)
 have h5:B * P≤P * (v1 * B+v2):=by
  rw[Nat.mul_comm B P]
  refine Nat.mul_le_mul_left P (Nat.le_trans (?_:B≤v1 * B) (Nat.le_add_right _ _))
  exact Nat.le_mul_of_pos_left B hv1
 omega
def s4 (v1 v2 u2 q r:Nat):Nat :=
 if h:B≤r∨v1=0 then q
 else if B≤q∨r * B+u2<q * v2 then (if B≤r+v1 then q - 1 else s4 v1 v2 u2 (q - 1) (r+v1)) else q
termination_by B - r
decreasing_by simp at h;omega
structure Est (U V q:Nat):Prop where
 b:q<B
 lo:U<(q+1) * V
 hi:q * V≤U+V
theorem zED {U V P top v1 v2 u2 ur vr:Nat}(hv1:0<v1)(hv2:v2<B)(hu2:u2<B)(hU:U=ur+P * (top * B+u2))(hV:V=vr+P * (v1 * B+v2))(hur:ur<P)(hvr:vr<P)(hlt:U<B * V)(htop:top<v1 * B+B) :
  ∀ n q r,B - r≤n→EstInv U V P top v1 v2 u2 q r→r<B→q≤B+1→Est U V (s4 v1 v2 u2 q r)
 | 0,q,r,hn,hi,hr,hq=>by omega
 | n+1,q,r,hn,hi,hr,hq=>by
  rw[s4]
  rw[dif_neg (by omega)]
  by_cases hc:B≤q∨r * B+u2<q * v2
  ·rw[if_pos hc]
   have hq0:0<q:=by
    rcases hc with h | h
    ·exact Nat.lt_of_lt_of_le xS h
    ·rcases Nat.eq_zero_or_pos q with e | e
     ·rw[e] at h;simp at h
     ·exact e
   have hover:U<q * V:=by
    rcases hc with h | h
    ·exact Nat.lt_of_lt_of_le hlt (Nat.mul_le_mul_right V h)
    ·exact zKC hU hV hur hi.top h
   have hst:=zKB (P:=P) (v2:=v2) (u2:=u2) hq0 hi.top hover
   by_cases h2:B≤r+v1
   ·rw[if_pos h2]
    have hqB:q - 1<B:=by
     rcases Nat.lt_or_ge (q - 1) B with h | h
     ·exact h
     ·have h3:=hst.top
      have h4:=Nat.mul_le_mul_right v1 h
      rw[Nat.mul_comm B v1] at h4
      omega
    refine⟨hqB,hst.lo,zA7 (r:=r+v1) (v2:=v2) (u2:=u2) hv1 hU hV hvr hst.top (Nat.le_of_lt hqB) ?_⟩
    have h5:(q - 1) * v2≤B * B:=Nat.mul_le_mul (Nat.le_of_lt hqB) (Nat.le_of_lt hv2)
    have h6:B * B≤(r+v1) * B:=Nat.mul_le_mul_right B h2
    omega
   ·rw[if_neg h2]
    exact zED hv1 hv2 hu2 hU hV hur hvr hlt htop n _ _ (by omega) hst (by omega) (by omega)
  ·rw[if_neg hc]
   have h1:q<B:=by omega
   exact⟨h1,hi.lo,zA7 hv1 hU hV hvr hi.top (Nat.le_of_lt h1) (by omega)⟩
def n5 (U V q:Nat):Nat:=if q * V≤U then q else q - 1
theorem zKH {U V q:Nat}(hV:0<V)(h:Est U V q):n5 U V q=U / V:=by
 unfold n5
 split
 ·rename_i h1
  exact (Nat.div_eq_of_lt_le h1 h.lo).symm
 ·rename_i h1
  have h1:U<q * V:=by omega
  have hq:q≠0:=fun e=>by rw[e] at h1;omega
  obtain⟨k,rfl⟩:∃ k,q=k+1:=⟨q - 1,by omega⟩
  have h2:=h.hi
  rw[Nat.add_mul,Nat.one_mul] at h2
  rw[Nat.add_sub_cancel]
  exact (Nat.div_eq_of_lt_le (by omega) h1).symm
theorem pQ {l:List UInt32}(n:Nat)(h:n≤l.length):val l=val (l.take n)+B ^ n * val (l.drop n):=by
 have e:(l.take n).length=n:=by simp;omega
 calc val l=val (l.take n++l.drop n):=by rw[List.take_append_drop]
  _=_:=by rw[wF,e]
theorem uI {l:List UInt32}{i:Nat}(h:i<l.length):val (l.drop i)=(l.getD i 0).toNat+B * val (l.drop (i+1)):=by
 have:l.drop i=l.getD i 0::l.drop (i+1):=by
  rw[List.drop_eq_getElem_cons h]
  simp [h]
 rw[this]
 rfl
theorem l5 {l:List UInt32}(n:Nat)(hn:n≤l.length)(h:val l<B ^ n):val (l.drop n)=0:=by
 have h1:=pQ n hn
 rcases Nat.eq_zero_or_pos (val (l.drop n)) with h2 | h2
 ·exact h2
 ·have:=Nat.mul_le_mul_left (B ^ n) h2
  omega
theorem zIT {pre x post:List UInt32}{V n q:Nat}(hx:x.length=n+1)(hpost:val post=0)(hV:val x<V * B)(hVn:V<B ^ n)(h0:0<V)(hq:q=val x / V) :
  q<B∧val (pad (val x - q * V) (n+1)++post)<V ∧
  val (pre++(pad (val x - q * V) (n+1)++post))+V * (B ^ pre.length * q)=val (pre++(x++post)):=by
 have hmod:val x - q * V=val x % V:=by
  have:=Nat.div_add_mod (val x) V
  rw[hq,Nat.mul_comm]
  omega
 have hlt:=Nat.mod_lt (val x) h0
 refine⟨by rw[hq,Nat.div_lt_iff_lt_mul h0,Nat.mul_comm];exact hV,?_,?_⟩
 ·rw[wF,pO,hpost,hmod]
  simpa using hlt
 ·rw[wF,wF,wF,wF,pO,hpost,hmod]
  simp only[Nat.mul_zero,Nat.add_zero]
  have:=Nat.div_add_mod (val x) V
  rw[←hq] at this
  have e:V * (B ^ pre.length * q)=B ^ pre.length * (V * q):=Nat.mul_left_comm _ _ _
  rw[e,Nat.add_assoc,←Nat.mul_add]
  congr 2
  omega
end Go.Proofs.YtfainocfaddbdaaGreat
