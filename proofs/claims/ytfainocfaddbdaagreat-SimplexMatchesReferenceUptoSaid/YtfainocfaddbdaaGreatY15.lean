/- A part of the proof: NtA, NtB, NtC, NtD, PnB. -/
import Derived.Test.YtfainocfaddbdaaGreatY14
set_option linter.all false
namespace Go.Proofs.YtfainocfaddbdaaGreat
open Go
set_option maxRecDepth 100000
theorem gA (l:List UInt32)(hl:l.length<2^44):zJ 160 [nat l] (nat (zF (val l))):=by
 refine sF Tryz.f160 ?_;cbv;refine zZ (σ:=Nat) (fun n=>⟨[(0,nat l),(2,.nil),(3,.int .i64 (fun _=>(n:Int)))],[]⟩) (fun n=>n<=l.length/\val (l.take n)=val l) (fun n=>n) l.length ⟨Nat.le_refl _,by simp⟩ (.le ?_ trivial rfl) ?_;{cbv;exact⟨lR,lR,zC (by simp[zG]),trivial⟩};intro n hn;cbv;refine z9 (fun h=>?_) (fun h=>?_)
 ·(try dsimp only [zI] at *)
  obtain⟨m,rfl⟩:∃ m,n=m+1:=⟨n-1,by omega⟩;cbv;refine⟨zD om om,yY m om om ?_⟩;cbv;refine zE (fun h2=>?_) (fun h2=>?_)
  ·cbv;refine⟨zD om om,m,⟨om,?_⟩,om,.le ?_ trivial rfl⟩
   ·(have e:l.getD m 0=0:=by have:(l.getD m 0).toNat=0:=om;exact UInt32.toNat_inj.1 this);rw[<-hn.2,jT l (by omega),e,zAS]
   {cbv;exact⟨lR,lR,zC om,trivial⟩}
  ·(cbv;refine zE (fun h3=>om) (fun h3=>?_);cbv;refine⟨sE om om om,pG l,?_⟩;cbv;refine qP rfl ?_ rfl;refine zY ?_;have e:l.getD m 0≠0:=fun e=>by (try dsimp only [zI] at *);rw[e] at h2;exact h2 rfl);simp only[zH3,zH4]
   rw[<-hn.2,sW (by rw[jT l (by omega),pR];simpa using e)];rfl
 {cbv;refine zE (fun h3=>?_) (fun h3=>om);cbv;refine qP rfl ?_ rfl;refine zR ?_;have:n=0:=om;subst this;rw[<-hn.2];simp[val,limbs_zero,lm]}
theorem ty34:ty 25=.sli 1 4 [.int .u32 (fun _=>0)]:=by cbv
theorem s230 (l:List UInt32)(hl:l.length<2^40):zJ 168 [nat l] (nat l):=by refine sF Tryz.f168 ?_;cbv;refine⟨fun b hb=>?_⟩;cbv;refine yK (fun h=>?_) (fun h=>?_);{cbv;refine qP rfl ?_ rfl;exact zR (hb h)};{cbv;refine vM ty34 rfl rfl rfl rfl rfl (pG l) (yE om (by simp only[List.length_nil];(try dsimp only [zI] at *) <;> (try simp only[zG] at *) <;> omega)) rfl ?_;cbv;refine retW (.frz 7 rfl rfl ?_ ?_) rfl ?_ rfl;{cbv;exact⟨yF (by simp),yF (by simp),trivial⟩};{exact trivial};{refine zY ?_;simp}}
theorem s223 (l:List UInt32)(hl:l.length<2^40):zJ 162 [nat l] (nat (zF (val l))):=by refine sF Tryz.f162 ?_;cbv;refine cA (gA l (by omega)) ?_;cbv;refine cA (s230 _ (Nat.lt_of_le_of_lt (zV l) hl)) ?_;cbv;refine qP rfl ?_ rfl;exact lR
theorem bR {l:List UInt32}(h:l≠[]):gH l=(l.getD (l.length-1) 0 != 0):=by
 have:l=l.dropLast++[l.getD (l.length-1) 0]:=by rw[List.getD_eq_getElem?_getD,<-List.getLast?_eq_getElem?,List.getLast?_eq_some_getLast h];exact (List.dropLast_concat_getLast h).symm
 rw[this,pR];simp
theorem zNM (x:UInt32):(x != 0)=!decide ((x.toNat:Int)=0):=by rw[Bool.eq_iff_iff];simp only[bne_iff_ne,ne_eq,Bool.not_eq_true',decide_eq_false_iff_not];constructor;{intro h e;exact h (UInt32.toNat_inj.1 (by simpa using e))};{intro h e;exact h (by rw[e];rfl)}
theorem s160 (l:List UInt32)(hl:l.length<2^40):zJ 154 [nat l] (.bool (fun _=>gH l)):=by
 refine sF Tryz.f154 ?_;cbv;refine z9 (fun h=>?_) (fun h=>?_);{cbv;refine qP rfl ?_ rfl;refine zU ?_;have:l=[]:=List.eq_nil_of_length_eq_zero om;subst this;rfl}
 ·(cbv;refine⟨zD om om,yY (l.length-1) om om ?_⟩;cbv;refine qP rfl ?_ rfl;refine qH ?_;have hne:l≠[]:=fun e=>by subst e;exact h rfl);rw[bR hne]
  exact zNM _
theorem s211 (x:Nat)(hx:x<B*B):zJ 142 [.int .u64 (fun _=>(x:Int))] (nat (zF x)):=by
 refine sF Tryz.f142 ?_;cbv;refine⟨wN (by omega),?_⟩;refine xO rfl (by
  (refine⟨zY ?_,trivial⟩;have h1:ishr .u64 (x:Int) 32=((x/B:Nat):Int):=by unfold ishr;simp[IntKind.bits,B,Int.fdiv_eq_ediv_of_nonneg]);have h2:x/B<B:=Nat.div_lt_of_lt_mul hx;simp only[yS,xJ,toD,lm,List.map_cons,List.map_nil,zI,h1,kO,jY];rw[UInt32.toNat_ofNat',Nat.mod_eq_of_lt (show x/B<2^32 from h2)];simp only[B] at *
  congr 3
  ·congr 1;omega) (gA [UInt32.ofNat (x%B),UInt32.ofNat (x/B)] (by simp)) rfl ?_
 cbv;refine qP rfl ?_ rfl;refine zY ?_;have h2:x/B<B:=Nat.div_lt_of_lt_mul hx;have:val [UInt32.ofNat (x%B),UInt32.ofNat (x/B)]=x:=by simp only[val,jY];rw[UInt32.toNat_ofNat',Nat.mod_eq_of_lt (show x/B<2^32 from h2),Nat.mul_zero,Nat.add_zero];exact Nat.mod_add_div x B
 rw[this]
theorem s162 (a b:List UInt32)(ha:a.length<2^40)(hb:b.length<2^40):zJ 156 [nat a,nat b] (.int .i64 (fun _=>vJ (val a) (val b))):=by
 refine sF Tryz.f156 ?_;cbv;refine cA (gA a (by omega)) ?_;cbv;refine cA (gA b (by omega)) ?_;cbv;have ha':=Nat.lt_of_le_of_lt (zV a) ha;have hb':=Nat.lt_of_le_of_lt (zV b) hb;refine zE (fun h=>?_) (fun h=>?_)
 ·cbv;have hl:(zF (val a)).length=(zF (val b)).length:=om;refine⟨zD om om,?_⟩;refine zZ (σ:=Nat) (fun n=>⟨[(0,nat (zF (val a))),(1,nat (zF (val b))),(5,.int .i64 (fun _=>(n:Int)-1))],[]⟩) (fun n=>n<=(zF (val a)).length/\(zF (val a)).drop n=(zF (val b)).drop n) (fun n=>n) (zF (val a)).length ⟨Nat.le_refl _,by simp[hl]⟩ (.le ?_ trivial rfl) ?_;{cbv;exact⟨lR,lR,zC om,trivial⟩};intro n hn;cbv;refine zE (fun h2=>?_) (fun h2=>?_)
  ·(try dsimp only [zI] at *)
   obtain⟨m,rfl⟩:∃ m,n=m+1:=⟨n-1,by omega⟩;cbv;refine zX 9 (by cbv) ?_;cbv;refine yY m om om ?_;cbv;refine yY m om om ?_;cbv;refine zE (fun h3=>?_) (fun h3=>?_)
   ·cbv;refine⟨zD om om,m,⟨om,?_⟩,om,.le ?_ trivial rfl⟩
    ·(try dsimp only [zI] at *)
     have e:(zF (val a)).getD m 0=(zF (val b)).getD m 0:=UInt32.toNat_inj.1 (by omega);rw[List.drop_eq_getElem_cons (by omega:m<(zF (val a)).length),List.drop_eq_getElem_cons (by omega:m<(zF (val b)).length),hn.2];congr 1;simpa[show m<(zF (val a)).length by omega,show m<(zF (val b)).length by omega] using e
    {cbv;exact⟨lR,lR,zC om,trivial⟩}
   {cbv;refine zX 9 (by cbv) ?_;cbv;refine yY m om om ?_;cbv;refine yY m om om ?_;cbv;refine zE (fun h4=>?_) (fun h4=>?_);{cbv;refine qP rfl ?_ rfl;refine zC ?_;have:=zM3 (a:=zF (val a)) (b:=zF (val b)) (m:=m) om om hn.2 om;rw[zL,zL] at this;rw[iF this]};{cbv;refine qP rfl ?_ rfl;refine zC ?_;have:=zM3 (a:=zF (val b)) (b:=zF (val a)) (m:=m) om om hn.2.symm om;rw[zL,zL] at this;rw[iG this]}}
  ·(cbv;refine qP rfl ?_ rfl;refine zC ?_;have h0:n=0:=om;subst h0;have e:zF (val a)=zF (val b):=by simpa using hn.2);have:val a=val b:=by rw[<-zL (val a),e,zL]
   rw[this,zCV]
 {cbv;refine zE (fun h2=>?_) (fun h2=>?_);{cbv;refine qP rfl ?_ rfl;refine zC ?_;rw[iF (mP om)]};{cbv;refine qP rfl ?_ rfl;refine zC ?_;rw[iG (mP om)]}}
theorem zMW (l:List UInt32)(i:Nat)(x:UInt32):(lm l).set i [.int .u32 x.toNat]=lm (l.set i x):=by simp[lm,List.map_set]
theorem f7 (n:Nat):ishr .u64 (n:Int) 32=((n/B:Nat):Int):=by unfold ishr;simp[IntKind.bits,B,Int.fdiv_eq_ediv_of_nonneg]
theorem k7 (out:List UInt32){k j:Nat}(hk:k=j)(d:Nat):(lm out).set k [.int .u32 (nx .u32 ((d:Nat):Int))]=lm (out.set j (UInt32.ofNat d)):=by subst hk;rw[<-zMW,xG,kO];simp[B]
theorem s221 (a b:List UInt32)(ha:a.length<2^40)(hb:b.length<2^40):zJ 176 [nat a,nat b] (nat (zF (val a+val b))):=by
 refine sF Tryz.f176 ?_;cbv;refine cA (gA a (by omega)) ?_;cbv;refine cA (gA b (by omega)) ?_;cbv;have ha':=Nat.lt_of_le_of_lt (zV a) ha;have hb':=Nat.lt_of_le_of_lt (zV b) hb;refine kD (σ:=List UInt32×List UInt32) (fun s=>⟨[(0,nat s.1),(1,nat s.2),(4,.nil)],[]⟩) (fun s=>s.2.length<=s.1.length/\s.1.length<2^40/\val s.1+val s.2=val a+val b) (fun h=>?_) (fun h=>?_) ?_;{cbv;refine⟨(zF (val b),zF (val a)),⟨om,hb',by simp only[zL];omega⟩,.le ?_ trivial rfl⟩;cbv;exact okA};{cbv;refine⟨(zF (val a),zF (val b)),⟨om,ha',by simp only[zL]⟩,.le ?_ trivial rfl⟩;cbv;exact okA};intro s hs;obtain⟨hpq,hp,hv⟩:=hs;generalize s.1=p at *
 generalize s.2=q at *
 cbv;refine⟨zD om om,yE om om,x7 om om,?_⟩;cbv;refine zZ (σ:=Nat×Nat×List UInt32) (fun s=>⟨[(0,nat p),(1,nat q),(5,.osl 23 1 (fun _=>0) (fun _=>p.length+1)),(6,.int .u64 (fun _=>(s.2.1:Int))),(24,nat p),(25,.int .i64 (fun _=>(p.length:Int))),(26,.int .i64 (fun _=>(s.1:Int)))],[(23,.arr 1 (fun _=>lm s.2.2))]⟩)
  (fun s=>s.1<=p.length/\s.2.1<2/\s.2.2.length=p.length+1/\val (s.2.2.take s.1)+B^s.1*s.2.1=val (p.take s.1)+val (q.take s.1)) (fun s=>p.length-s.1)
  (0,0,List.replicate (p.length+1) 0) ⟨om,om,by simp,by simp[val]⟩ (.le ?_ ?_ rfl) ?_
 {cbv;exact⟨lR,lR,z4 rfl om,lR,lR,zC om,lR,trivial⟩}
 ·(cbv;refine⟨zA ?_,trivial⟩;show List.replicate (((lm p).length:Int)+1).toNat _=_;have:(((lm p).length:Int)+1).toNat=p.length+1:=by rw[zG];omega);rw[this]
  simp[lm,xJ,toD]
 intro s hs;obtain⟨h1,h2,h3,h4⟩:=hs;generalize s.1=i at *
 generalize s.2.1=c at *
 generalize s.2.2=out at *
 cbv;refine zE (fun h5=>?_) (fun h5=>?_)
 ·cbv;refine yY i om om ?_;cbv;have hpi:=yB (p.getD i 0);have hqi:=yB (q.getD i 0);simp only[B] at hpi hqi;refine kD (σ:=Unit) (fun _=>⟨[(0,nat p),(1,nat q),(5,.osl 23 1 (fun _=>0) (fun _=>p.length+1)),(6,.int .u64 (fun _=>((c+(p.getD i 0).toNat+(q.getD i 0).toNat:Nat):Int))),(7,.int .i64 (fun _=>(i:Int))),(24,nat p),(25,.int .i64 (fun _=>(p.length:Int))),(26,.int .i64 (fun _=>(i:Int)))],[(23,.arr 1 (fun _=>lm out))]⟩) (fun _=>True) (fun h6=>?_) (fun h6=>?_) ?_
  ·cbv;refine yY i om om ?_;cbv;refine⟨(),trivial,.le ?_ ?_ rfl⟩
   ·cbv;refine⟨lR,lR,lR,zC ?_,lR,lR,lR,lR,trivial⟩
    (try dsimp only [zI] at *)
    simp only[wT];omega
   {cbv;exact⟨zA rfl,trivial⟩}
  ·cbv;refine⟨(),trivial,.le ?_ ?_ rfl⟩
   ·cbv;refine⟨lR,lR,lR,zC ?_,lR,lR,lR,lR,trivial⟩;have:(q.getD i 0).toNat=0:=by have:q.length<=i:=om;simp[List.getElem?_eq_none this]
    (try dsimp only [zI] at *)
    simp only[wT];omega
   {cbv;exact⟨zA rfl,trivial⟩}
  intro _ _;generalize hd:c+(p.getD i 0).toNat+(q.getD i 0).toNat=d;cbv;refine⟨zQ om om,kC i (by simp) om ?_⟩;cbv;refine⟨wN (by omega),zD om om,(i+1,d/B,out.set i (UInt32.ofNat d)),⟨om,?_,by simpa using h3,?_⟩,om,.le ?_ ?_ rfl⟩;{show d/B<2;simp only[B];omega}
  ·(show val ((out.set i (UInt32.ofNat d)).take (i+1))+B^(i+1)*(d/B)=val (p.take (i+1))+val (q.take (i+1));rw[w7 _ om,zT p,zT q,xG];have e1:B^i*(d%B)+B^(i+1)*(d/B)=B^i*d:=by rw[Nat.pow_succ,Nat.mul_assoc,<-Nat.mul_add,Nat.mod_add_div]);have e2:B^i*d=B^i*c+B^i*(p.getD i 0).toNat+B^i*(q.getD i 0).toNat:=by rw[<-hd,Nat.mul_add,Nat.mul_add]
   omega
  {cbv;refine⟨lR,lR,lR,zC (f7 d),lR,lR,zC om,trivial⟩};{cbv;exact⟨zA (k7 out (by simp) d),trivial⟩}
 {cbv;refine⟨zQ om om,kC p.length (by simp[zG]) om ?_⟩;cbv;have hi:i=p.length:=om;subst hi;refine gI (.trans (.le (ps':=⟨[(60,.osl 23 1 (fun _=>0) (fun _=>p.length+1))],[(23,.arr 1 (fun _=>lm (out.set p.length (UInt32.ofNat c))))]⟩) ?_ ?_ rfl) (.frz 23 rfl rfl ?_ ?_)) rfl (by refine⟨zY ?_,trivial⟩;exact List.take_of_length_le (by simp[zG] <;> omega)) (gA (out.set p.length (UInt32.ofNat c)) (by simp;omega)) rfl ?_;{cbv;exact okA};{cbv;exact⟨zA (k7 out (by simp[zG]) c),trivial⟩};{cbv;exact⟨yF (by simp[zG];omega),trivial⟩};{exact trivial};cbv;refine qP rfl ?_ rfl;refine zY ?_;congr 2;have e:=w7 out (n:=p.length) (by omega) (UInt32.ofNat c);rw[List.take_of_length_le (by simp;omega),xG,Nat.mod_eq_of_lt (show c<B by simp only[B];omega),h4,List.take_of_length_le (Nat.le_refl _),List.take_of_length_le hpq] at e;omega}
theorem kZ (out:List UInt32){k j:Nat}(hk:k=j){z:Int}{w:Nat}(hz:z=(w:Int))(hw:w<B):(lm out).set k [.int .u32 z]=lm (out.set j (UInt32.ofNat w)):=by subst hk hz;rw[<-zMW,xG,Nat.mod_eq_of_lt hw]
theorem zMY (z:Int):ishr .u64 z 63=z/9223372036854775808:=by unfold ishr;simp[IntKind.bits,Int.fdiv_eq_ediv_of_nonneg]
theorem s222 (a b:List UInt32)(ha:a.length<2^40)(hb:b.length<2^40):zJ 177 [nat a,nat b] (.tup [nat (zF (val a-val b)),.int .i64 (fun _=>if val b<=val a then 0 else 2)]):=by
 refine sF Tryz.f177 ?_;cbv;refine cA (gA a (by omega)) ?_;cbv;refine cA (gA b (by omega)) ?_;cbv;have ha':=Nat.lt_of_le_of_lt (zV a) ha;have hb':=Nat.lt_of_le_of_lt (zV b) hb;refine cA (s162 _ _ ha' hb') ?_;cbv;simp only[zL];refine zE (fun h=>?_) (fun h=>?_)
 ·(have h':val a<val b:=by rcases Nat.lt_trichotomy (val a) (val b) with h1|h1|h1;{exact h1};{rw[h1,zCV] at h;omega};{rw[iG h1] at h;omega});cbv;refine qP rfl ?_ rfl;refine⟨zR ?_,zC ?_,trivial⟩;{rw[Nat.sub_eq_zero_of_le (by omega),limbs_zero];rfl};{rw[if_neg (by omega)]}
 have hle:val b<=val a:=by rcases Nat.lt_or_ge (val a) (val b) with h1|h1;{rw[iF h1] at h;omega};{exact h1}
 have hv:val (zF (val a))=val a:=zL _;have hv2:val (zF (val b))=val b:=zL _;have hpq:(zF (val b)).length<=(zF (val a)).length:=by rcases Nat.lt_or_ge (zF (val a)).length (zF (val b)).length with h1|h1;{have:=mP h1;omega};{exact h1}
 generalize zF (val a)=p at *
 generalize zF (val b)=q at *
 cbv;refine⟨yE om om,x7 om om,?_⟩;cbv;refine zZ (σ:=Nat×Nat×List UInt32) (fun s=>⟨[(0,nat p),(1,nat q),(6,.osl 21 1 (fun _=>0) (fun _=>p.length)),(7,.int .u64 (fun _=>(s.2.1:Int))),(22,nat p),(23,.int .i64 (fun _=>(p.length:Int))),(24,.int .i64 (fun _=>(s.1:Int)))],[(21,.arr 1 (fun _=>lm s.2.2))]⟩)
  (fun s=>s.1<=p.length/\s.2.1<2/\s.2.2.length=p.length/\val (s.2.2.take s.1)+val (q.take s.1)=val (p.take s.1)+B^s.1*s.2.1) (fun s=>p.length-s.1)
  (0,0,List.replicate p.length 0) ⟨om,om,by simp,by simp[val]⟩ (.le ?_ ?_ rfl) ?_
 {cbv;exact⟨lR,lR,z4 rfl om,lR,lR,zC om,lR,trivial⟩}
 ·(cbv;refine⟨zA ?_,trivial⟩;show List.replicate (((lm p).length:Int)).toNat _=_;have:(((lm p).length:Int)).toNat=p.length:=by rw[zG];omega);rw[this]
  simp[lm,xJ,toD]
 intro s hs;obtain⟨h1,h2,h3,h4⟩:=hs;generalize s.1=i at *
 generalize s.2.1=c at *
 generalize s.2.2=out at *
 cbv;refine zE (fun h5=>?_) (fun h5=>?_)
 ·cbv;refine yY i om om ?_;cbv;have hpi:=yB (p.getD i 0);have hqi:=yB (q.getD i 0);simp only[B] at hpi hqi;refine kD (σ:=Unit) (fun _=>⟨[(0,nat p),(1,nat q),(6,.osl 21 1 (fun _=>0) (fun _=>p.length)),(10,.int .u64 (fun _=>nx .u64 (((p.getD i 0).toNat:Int)-(c:Int)-((q.getD i 0).toNat:Int)))),(8,.int .i64 (fun _=>(i:Int))),(22,nat p),(23,.int .i64 (fun _=>(p.length:Int))),(24,.int .i64 (fun _=>(i:Int)))],[(21,.arr 1 (fun _=>lm out))]⟩) (fun _=>True) (fun h6=>?_) (fun h6=>?_) ?_
  ·cbv;refine yY i om om ?_;cbv;refine⟨(),trivial,.le ?_ ?_ rfl⟩
   ·cbv;refine⟨lR,lR,lR,zC ?_,lR,lR,lR,lR,trivial⟩
    (try dsimp only [zI] at *)
    simp only[wT];omega
   {cbv;exact⟨zA rfl,trivial⟩}
  ·cbv;refine⟨(),trivial,.le ?_ ?_ rfl⟩
   ·cbv;refine⟨lR,lR,lR,zC ?_,lR,lR,lR,lR,trivial⟩;have:(q.getD i 0).toNat=0:=by have:q.length<=i:=om;simp[List.getElem?_eq_none this]
    (try dsimp only [zI] at *)
    simp only[wT];omega
   {cbv;exact⟨zA rfl,trivial⟩}
  (intro _ _;obtain⟨w,c',hw,hc',he⟩:∃ w c':Nat,w<B/\c'<2/\(p.getD i 0).toNat+B*c'=w+c+(q.getD i 0).toNat:=by simp only[B];by_cases hlt:(p.getD i 0).toNat<c+(q.getD i 0).toNat;{exact⟨(p.getD i 0).toNat+4294967296-c-(q.getD i 0).toNat,1,by omega,by omega,by omega⟩};{exact⟨(p.getD i 0).toNat-c-(q.getD i 0).toNat,0,by omega,by omega,by omega⟩});have hz:nx .u64 (((p.getD i 0).toNat:Int)-(c:Int)-((q.getD i 0).toNat:Int))=if c'=0 then (w:Int) else (w:Int)+18446744069414584320:=by
   rw[wT];simp only[B] at *
   split <;> omega
  simp only[hz];cbv;refine⟨zQ om om,kC i (by simp) om ?_⟩;cbv;refine⟨wN (by omega),zD om om,(i+1,c',out.set i (UInt32.ofNat w)),⟨om,hc',by simpa using h3,?_⟩,om,.le ?_ ?_ rfl⟩
  ·(show val ((out.set i (UInt32.ofNat w)).take (i+1))+val (q.take (i+1))=val (p.take (i+1))+B^(i+1)*c';rw[w7 _ om,zT p,zT q,xG,Nat.mod_eq_of_lt hw];have e1:B^i*(p.getD i 0).toNat+B^(i+1)*c'=B^i*w+B^i*c+B^i*(q.getD i 0).toNat:=by rw[Nat.pow_succ,Nat.mul_assoc,<-Nat.mul_add,he,Nat.mul_add,Nat.mul_add]);omega
  {cbv;refine⟨lR,lR,lR,zC ?_,lR,lR,zC om,trivial⟩;rw[zMY];show (if c'=0 then (w:Int) else (w:Int)+18446744069414584320)/9223372036854775808=(c':Int);simp only[B] at hw;split <;> omega};{cbv;refine⟨zA (kZ out (by simp) ?_ hw),trivial⟩;show nx .u32 (if c'=0 then (w:Int) else (w:Int)+18446744069414584320)=(w:Int);rw[kO];simp only[B] at hw;split <;> omega}
 ·cbv;have hi:i=p.length:=om;subst hi;refine gI (.trans (.le (ps':=⟨[(52,.osl 21 1 (fun _=>0) (fun _=>p.length))],[(21,.arr 1 (fun _=>lm out))]⟩) ?_ ?_ rfl) (.frz 21 rfl rfl ?_ ?_)) rfl (by refine⟨zY ?_,trivial⟩;exact List.take_of_length_le (by simp[zG] <;> omega)) (gA out (by omega)) rfl ?_;{cbv;exact okA};{cbv;exact⟨zA rfl,trivial⟩};{cbv;exact⟨yF (by simp[zG] <;> omega),trivial⟩};{exact trivial};cbv;refine qP rfl ?_ rfl;rw[List.take_of_length_le (by omega),List.take_of_length_le hpq,List.take_of_length_le (Nat.le_refl _)] at h4;have hlo:=xD out;have hlq:=xD q;have hc0:c=0:=by
   rcases Nat.eq_zero_or_pos c with h6|h6;{exact h6}
   ·(exfalso;have:c=1:=by omega);subst this
    rw[h3] at hlo;omega
  subst hc0;refine⟨zY ?_,zC ?_,trivial⟩;{congr 2;omega};{rw[if_pos hle]}
theorem y9 {n:Nat}(h:n<18446744073709551616):nx .u64 (n:Int)=(n:Int):=by rw[wT];omega
theorem s194 (a b:List UInt32)(ha:a.length<2^40)(hb:b.length<2^40):zJ 139 [nat a,nat b] (nat (zF (val a*val b))):=by
 refine sF Tryz.f139 ?_;cbv;refine cA (gA a (by omega)) ?_;cbv;refine cA (gA b (by omega)) ?_;cbv;have ha':=Nat.lt_of_le_of_lt (zV a) ha;have hb':=Nat.lt_of_le_of_lt (zV b) hb;have hv:val (zF (val a))=val a:=zL _;have hv2:val (zF (val b))=val b:=zL _;generalize zF (val a)=p at *
 generalize zF (val b)=q at *
 
 refine z9 (fun h=>?_) (fun h=>?_);{cbv;refine qP rfl ?_ rfl;refine zR ?_;have:p=[]:=List.eq_nil_of_length_eq_zero om;subst this;rw[<-hv];simp[val,limbs_zero,lm]};cbv;refine zE (fun h'=>?_) (fun h'=>?_);{cbv;refine qP rfl ?_ rfl;refine zR ?_;have:q=[]:=List.eq_nil_of_length_eq_zero om;subst this;rw[<-hv2];simp[val,limbs_zero,lm]};cbv;refine⟨zD om om,yE om om,x7 om om,?_⟩;cbv;refine zZ (σ:=Nat×List UInt32) (fun s=>⟨[(0,nat p),(1,nat q),(5,.osl 28 1 (fun _=>0) (fun _=>p.length+q.length)),(29,nat p),(30,.int .i64 (fun _=>(p.length:Int))),(31,.int .i64 (fun _=>(s.1:Int)))],[(28,.arr 1 (fun _=>lm s.2))]⟩)
  (fun s=>s.1<=p.length/\s.2.length=p.length+q.length/\val s.2=val (p.take s.1)*val q/\∀ j,s.1+q.length<=j->s.2.getD j 0=0) (fun s=>p.length-s.1)
  (0,List.replicate (p.length+q.length) 0) ⟨om,by simp,by simp[val,kW],fun j _=>by simp only[List.getD_eq_getElem?_getD,List.getElem?_replicate];split <;> rfl⟩ (.le ?_ ?_ rfl) ?_
 {cbv;exact⟨lR,lR,z4 rfl om,lR,zC om,lR,trivial⟩}
 ·(cbv;refine⟨zA ?_,trivial⟩;show List.replicate (((lm p).length:Int)+((lm q).length:Int)).toNat _=_;have:(((lm p).length:Int)+((lm q).length:Int)).toNat=p.length+q.length:=by rw[zG,zG];omega);rw[this]
  simp[lm,xJ,toD]
 intro s hs;obtain⟨h1,h2,h3,h4⟩:=hs;generalize s.1=i at *
 generalize s.2=out at *
 cbv;refine zE (fun h5=>?_) (fun h5=>?_)
 ·cbv;refine yY i om om ?_;cbv;have hx:=yB (p.getD i 0);generalize hpx:(p.getD i 0).toNat=x at *
  refine zZ (σ:=Nat×Nat×List UInt32) (fun s=>⟨[(0,nat p),(1,nat q),(5,.osl 28 1 (fun _=>0) (fun _=>p.length+q.length)),(29,nat p),(30,.int .i64 (fun _=>(p.length:Int))),(31,.int .i64 (fun _=>(i:Int))),(6,.int .i64 (fun _=>(i:Int))),(7,.int .u32 (fun _=>(x:Int))),(8,.int .u64 (fun _=>(s.2.1:Int))),(36,nat q),(37,.int .i64 (fun _=>(q.length:Int))),(38,.int .i64 (fun _=>(s.1:Int)))],[(28,.arr 1 (fun _=>lm s.2.2))]⟩)
   (fun s=>s.1<=q.length/\s.2.1<B/\s.2.2.length=p.length+q.length/\val s.2.2+B^(i+s.1)*s.2.1=val (p.take i)*val q+B^i*(x*val (q.take s.1))/\∀ j,i+q.length<=j->s.2.2.getD j 0=0) (fun s=>q.length-s.1)
   (0,0,out) ⟨om,xM,h2,by simp[val,h3],h4⟩ (.le ?_ ?_ rfl) ?_
  {cbv;exact⟨lR,lR,lR,lR,lR,lR,lR,lR,lR,lR,zC om,lR,trivial⟩};{cbv;exact⟨zA rfl,trivial⟩};intro s hs;obtain⟨g1,g2,g3,g4,g5⟩:=hs;generalize s.1=k at *
  generalize s.2.1=c at *
  generalize s.2.2=out' at *
  cbv;refine zE (fun h6=>?_) (fun h6=>?_)
  ·(cbv;refine yY k om om ?_;cbv;have hik:0+((i:Int)+(k:Int)).toNat=i+k:=by omega);refine⟨zD om om,zQ om om,kC (i+k) hik om ?_⟩
   cbv;refine⟨zD om om,zQ om om,kC (i+k) hik om ?_⟩;cbv;have hy:=yB (q.getD k 0);have ho:=yB (out'.getD (i+k) 0);have hset:=dM out' (j:=i+k) om (UInt32.ofNat (c+(x*(q.getD k 0).toNat+(out'.getD (i+k) 0).toNat)));have htk:=zT q k;generalize hqy:(q.getD k 0).toNat=y at *
   generalize hoo:(out'.getD (i+k) 0).toNat=o at *
   (have hm:x*y<=4294967295*4294967295:=Nat.mul_le_mul (by simp only[B] at hx;omega) (by simp only[B] at hy;omega);have hB:B=4294967296:=rfl;have hT:nx .u64 ((c:Int)+nx .u64 (nx .u64 (nx .u64 (x:Int)*nx .u64 (y:Int))+nx .u64 (o:Int)))=((c+(x*y+o):Nat):Int):=by rw[y9 (n:=x) (by omega),y9 (n:=y) (by omega),y9 (n:=o) (by omega),<-Int.natCast_mul,y9 (n:=x*y) (by omega),<-Int.natCast_add,y9 (n:=x*y+o) (by omega),<-Int.natCast_add,y9 (by omega)]);refine⟨wN (by omega),zD om om,(k+1,(c+(x*y+o))/B,out'.set (i+k) (UInt32.ofNat (c+(x*y+o)))),⟨om,?_,by simpa using g3,?_,?_⟩,om,.le ?_ ?_ rfl⟩
   {show (c+(x*y+o))/B<B;exact Nat.div_lt_of_lt_mul (by have:B*B=18446744073709551616:=rfl;omega)}
   ·show val (out'.set (i+k) (UInt32.ofNat (c+(x*y+o))))+B^(i+(k+1))*((c+(x*y+o))/B)=val (p.take i)*val q+B^i*(x*val (q.take (k+1)));rw[htk];rw[xG] at hset;have e0:∀ t,B^(i+k)*(t%B)+B^(i+(k+1))*(t/B)=B^(i+k)*t:=by
     (intro t;have:i+(k+1)=(i+k)+1:=by omega);rw[this,Nat.pow_succ,Nat.mul_assoc,<-Nat.mul_add,Nat.mod_add_div]
    (have e1:=e0 (c+(x*y+o));have e3:B^(i+k)*(c+(x*y+o))=B^(i+k)*c+B^(i+k)*(x*y)+B^(i+k)*o:=by rw[Nat.mul_add,Nat.mul_add];omega);have e2:B^i*(x*(val (q.take k)+B^k*y))=B^i*(x*val (q.take k))+B^(i+k)*(x*y):=by rw[Nat.mul_add,Nat.mul_add,Nat.pow_add];congr 1;rw[Nat.mul_left_comm x,Nat.mul_assoc]
    omega
   {intro j hj;show (out'.set (i+k) _).getD j 0=0;rw[dB _ _ _ _ om];exact g5 j hj};{cbv;refine⟨lR,lR,lR,lR,lR,lR,lR,lR,zC ?_,lR,lR,zC om,trivial⟩;exact (congrArg (fun z=>ishr .u64 z 32) hT).trans (f7 _)};{cbv;refine⟨zA ?_,trivial⟩;exact (congrArg (fun z=>(lm out').set (0+((i:Int)+(k:Int)).toNat) [.int .u32 (nx .u32 z)]) hT).trans (k7 out' hik _)}
  ·(cbv;have hkq:k=q.length:=om;subst hkq;have hlq:0+((i:Int)+((lm q).length:Int)).toNat=i+q.length:=by rw[zG];omega);refine⟨zD om om,zQ om om,kC (i+q.length) hlq om ?_⟩
   cbv;refine⟨zD om om,(i+1,out'.set (i+q.length) (UInt32.ofNat c)),⟨om,by simpa using g3,?_,?_⟩,om,.le ?_ ?_ rfl⟩;{show val (out'.set (i+q.length) (UInt32.ofNat c))=val (p.take (i+1))*val q;have hset:=dM out' (j:=i+q.length) om (UInt32.ofNat c);rw[g5 _ (Nat.le_refl _),xG,Nat.mod_eq_of_lt g2] at hset;rw[List.take_of_length_le (Nat.le_refl _)] at g4;rw[zT p,hpx,Nat.add_mul,Nat.mul_assoc];simp only[UInt32.toNat_zero,Nat.mul_zero,Nat.add_zero] at hset;omega};{intro j hj;show (out'.set (i+q.length) _).getD j 0=0;have hj':i+1+q.length<=j:=hj;rw[dB _ _ _ _ (by omega)];exact g5 j (by omega)};{cbv;exact⟨lR,lR,lR,lR,lR,zC om,trivial⟩};{cbv;exact⟨zA (k7 out' hlq c),trivial⟩}
 {cbv;have hip:i=p.length:=om;subst hip;refine gI (.trans (.le (ps':=⟨[(77,.osl 28 1 (fun _=>0) (fun _=>p.length+q.length))],[(28,.arr 1 (fun _=>lm out))]⟩) ?_ ?_ rfl) (.frz 28 rfl rfl ?_ ?_)) rfl (by refine⟨zY ?_,trivial⟩;exact List.take_of_length_le (by simp[zG] <;> omega)) (gA out (by omega)) rfl ?_;{cbv;exact okA};{cbv;exact⟨zA rfl,trivial⟩};{cbv;exact⟨yF (by simp[zG] <;> omega),trivial⟩};{exact trivial};cbv;refine qP rfl ?_ rfl;rw[List.take_of_length_le (Nat.le_refl _)] at h3;refine zY ?_;rw[h3,hv,hv2]}
end Go.Proofs.YtfainocfaddbdaaGreat
namespace Go.Proofs.YtfainocfaddbdaaGreat
def pad (n m:Nat):List UInt32:=zF n++List.replicate (m-(zF n).length) 0
theorem zG0 {l:List UInt32}{n m:Nat}(hl:l.length=m)(hv:val l=n):l=pad n m:=by
 have h1:(zF n).length<=m:=by rw[<-hv,<-hl];exact zV l
 refine lT ?_ ?_;{simp[pad];omega};{rw[pad,wF,kW,zL,hv];omega}
theorem fZ {n m:Nat}(h:n<B^m):(pad n m).length=m:=by have:=z3 h;simp[pad];omega
theorem pX (n m:Nat):val (pad n m)=n:=by rw[pad,wF,kW,zL];omega
theorem zKO {l:List UInt32}{n:Nat}(hl:l.length=n+2):val l=val (l.take n)+B^n*((l.getD (n+1) 0).toNat*B+(l.getD n 0).toNat):=by have h1:=zT l n;have h2:=zT l (n+1);rw[List.take_of_length_le (by omega)] at h2;rw[h2,h1,Nat.pow_succ,Nat.mul_add,Nat.mul_assoc,Nat.mul_comm B];omega
theorem zKN {l:List UInt32}{n:Nat}(hl:l.length=n+3):val l=val (l.take n)+B^n*(((l.getD (n+2) 0).toNat*B+(l.getD (n+1) 0).toNat)*B+(l.getD n 0).toNat):=by
 have h1:=zT l n;have h2:=zT l (n+1);have h3:=zT l (n+2);rw[List.take_of_length_le (by omega)] at h3;rw[h3,h2,h1];have e:B^(n+2)=B^n*(B*B):=by rw[Nat.pow_succ,Nat.pow_succ,Nat.mul_assoc]
 rw[e,Nat.pow_succ,Nat.mul_add,Nat.add_mul,Nat.mul_add,Nat.mul_assoc,Nat.mul_assoc];rw[Nat.mul_comm (B*B),<-Nat.mul_assoc (l.getD (n+2) 0).toNat,Nat.mul_comm B (l.getD (n+1) 0).toNat];omega
structure EstInv (U V P top v1 v2 u2:Nat) (q r:Nat):Prop where
 top:q*v1+r=top
 lo:U<(q+1)*V
theorem zLS {U V P top v1 v2 u2 ur vr:Nat}(hv1:0<v1)(hU:U=ur+P*(top*B+u2))(hV:V=vr+P*(v1*B+v2))(hur:ur<P)(hu2:u2<B):EstInv U V P top v1 v2 u2 (top/v1) (top%v1):=by
 refine⟨by rw[Nat.mul_comm];exact Nat.div_add_mod top v1,?_⟩;have h1:top+1<=(top/v1+1)*v1:=by have:=Nat.div_add_mod top v1;have:=Nat.mod_lt top hv1;rw[Nat.add_mul,Nat.mul_comm (top/v1)];omega
 have h2:(top+1)*B<=(top/v1+1)*(v1*B+v2):=by rw[Nat.mul_add,<-Nat.mul_assoc];exact Nat.le_trans (Nat.mul_le_mul_right B h1) (Nat.le_add_right _ _)
 have h3:top*B+u2+1<=(top+1)*B:=by rw[Nat.add_mul];omega
 have h4:=Nat.mul_le_mul_left P (Nat.le_trans h3 h2);have h5:(top/v1+1)*V=(top/v1+1)*vr+P*((top/v1+1)*(v1*B+v2)):=by rw[hV,Nat.mul_add,Nat.mul_left_comm]
 have h6:P*(top*B+u2+1)=P*(top*B+u2)+P:=by rw[Nat.mul_add,Nat.mul_one]
 omega
theorem zLR {U V P top v1 v2 u2 ur vr q r:Nat}(hU:U=ur+P*(top*B+u2))(hV:V=vr+P*(v1*B+v2))(hur:ur<P) (ht:q*v1+r=top) (h:r*B+u2<q*v2):U<q*V:=by
 have h1:top*B+u2+1<=q*(v1*B+v2):=by rw[<-ht,Nat.mul_add,Nat.add_mul,Nat.mul_assoc];omega
 have h2:=Nat.mul_le_mul_left P h1;have h3:q*V=q*vr+P*(q*(v1*B+v2)):=by rw[hV,Nat.mul_add,Nat.mul_left_comm]
 have h4:P*(top*B+u2+1)=P*(top*B+u2)+P:=by rw[Nat.mul_add,Nat.mul_one]
 omega
theorem zLQ {U V P top v1 v2 u2 q r:Nat}(hq:0<q)(ht:q*v1+r=top)(h:U<q*V):EstInv U V P top v1 v2 u2 (q-1) (r+v1):=by obtain⟨k,rfl⟩:∃ k,q=k+1:=⟨q-1,by omega⟩;refine⟨?_,by simpa using h⟩;rw[<-ht,Nat.add_sub_cancel,Nat.add_mul];omega
theorem zBK {U V P top v1 v2 u2 ur vr q r:Nat}(hv1:0<v1)(hU:U=ur+P*(top*B+u2))(hV:V=vr+P*(v1*B+v2))(hvr:vr<P) (ht:q*v1+r=top) (hq:q<=B) (h:q*v2<=r*B+u2):q*V<=U+V:=by
 have h1:q*(v1*B+v2)<=top*B+u2:=by rw[<-ht,Nat.mul_add,Nat.add_mul,Nat.mul_assoc];omega
 have h2:=Nat.mul_le_mul_left P h1;have h3:q*V=q*vr+P*(q*(v1*B+v2)):=by rw[hV,Nat.mul_add,Nat.mul_left_comm]
 have h4:q*vr<=B*P:=Nat.mul_le_mul hq (Nat.le_of_lt hvr);have h5:B*P<=P*(v1*B+v2):=by rw[Nat.mul_comm B P];refine Nat.mul_le_mul_left P (Nat.le_trans (?_:B<=v1*B) (Nat.le_add_right _ _));exact Nat.le_mul_of_pos_left B hv1
 omega
def rG (v1 v2 u2 q r:Nat):Nat :=
 if h:B<=r\/v1=0 then q
 else if B<=q\/r*B+u2<q*v2 then (if B<=r+v1 then q-1 else rG v1 v2 u2 (q-1) (r+v1)) else q
termination_by B-r
decreasing_by simp at h;omega
structure Est (U V q:Nat):Prop where
 b:q<B
 lo:U<(q+1)*V
 hi:q*V<=U+V
theorem zE3 {U V P top v1 v2 u2 ur vr:Nat}(hv1:0<v1)(hv2:v2<B)(hu2:u2<B)(hU:U=ur+P*(top*B+u2))(hV:V=vr+P*(v1*B+v2))(hur:ur<P)(hvr:vr<P)(hlt:U<B*V)(htop:top<v1*B+B):∀ n q r,B-r<=n->EstInv U V P top v1 v2 u2 q r->r<B->q<=B+1->Est U V (rG v1 v2 u2 q r)
 |0,q,r,hn,hi,hr,hq=>by omega| n+1,q,r,hn,hi,hr,hq=>by
  rw[rG];rw[dif_neg (by omega)];by_cases hc:B<=q\/r*B+u2<q*v2
  ·rw[if_pos hc];have hq0:0<q:=by rcases hc with h|h;{exact Nat.lt_of_lt_of_le xM h};{rcases Nat.eq_zero_or_pos q with e|e;{rw[e] at h;simp at h};{exact e}}
   (have hover:U<q*V:=by rcases hc with h|h;{exact Nat.lt_of_lt_of_le hlt (Nat.mul_le_mul_right V h)};{exact zLR hU hV hur hi.top h});have hst:=zLQ (P:=P) (v2:=v2) (u2:=u2) hq0 hi.top hover;by_cases h2:B<=r+v1
   ·(rw[if_pos h2];have hqB:q-1<B:=by rcases Nat.lt_or_ge (q-1) B with h|h;{exact h};{have h3:=hst.top;have h4:=Nat.mul_le_mul_right v1 h;rw[Nat.mul_comm B v1] at h4;omega});refine⟨hqB,hst.lo,zBK (r:=r+v1) (v2:=v2) (u2:=u2) hv1 hU hV hvr hst.top (Nat.le_of_lt hqB) ?_⟩;have h5:(q-1)*v2<=B*B:=Nat.mul_le_mul (Nat.le_of_lt hqB) (Nat.le_of_lt hv2);have h6:B*B<=(r+v1)*B:=Nat.mul_le_mul_right B h2;omega
   {rw[if_neg h2];exact zE3 hv1 hv2 hu2 hU hV hur hvr hlt htop n _ _ (by omega) hst (by omega) (by omega)}
  ·(rw[if_neg hc];have h1:q<B:=by omega);exact⟨h1,hi.lo,zBK hv1 hU hV hvr hi.top (Nat.le_of_lt h1) (by omega)⟩
def lJ (U V q:Nat):Nat:=if q*V<=U then q else q-1
theorem zLX {U V q:Nat}(hV:0<V)(h:Est U V q):lJ U V q=U/V:=by
 unfold lJ;split;{rename_i h1;exact (Nat.div_eq_of_lt_le h1 h.lo).symm}
 ·(rename_i h1;have h1:U<q*V:=by omega);have hq:q≠0:=fun e=>by rw[e] at h1;omega
  obtain⟨k,rfl⟩:∃ k,q=k+1:=⟨q-1,by omega⟩;have h2:=h.hi;rw[Nat.add_mul,Nat.one_mul] at h2;rw[Nat.add_sub_cancel];exact (Nat.div_eq_of_lt_le (by omega) h1).symm
theorem pZ {l:List UInt32}(n:Nat)(h:n<=l.length):val l=val (l.take n)+B^n*val (l.drop n):=by
 have e:(l.take n).length=n:=by simp;omega
 calc val l=val (l.take n++l.drop n):=by rw[List.take_append_drop]
  _=_:=by rw[wF,e]
theorem uH {l:List UInt32}{i:Nat}(h:i<l.length):val (l.drop i)=(l.getD i 0).toNat+B*val (l.drop (i+1)):=by
 have:l.drop i=l.getD i 0::l.drop (i+1):=by rw[List.drop_eq_getElem_cons h];simp[h]
 rw[this];rfl
theorem iM {l:List UInt32}(n:Nat)(hn:n<=l.length)(h:val l<B^n):val (l.drop n)=0:=by have h1:=pZ n hn;rcases Nat.eq_zero_or_pos (val (l.drop n)) with h2|h2;{exact h2};{have:=Nat.mul_le_mul_left (B^n) h2;omega}
theorem zJY {pre x post:List UInt32}{V n q:Nat}(hx:x.length=n+1)(hpost:val post=0)(hV:val x<V*B)(hVn:V<B^n)(h0:0<V)(hq:q=val x/V):q<B/\val (pad (val x-q*V) (n+1)++post)<V /\ val (pre++(pad (val x-q*V) (n+1)++post))+V*(B^pre.length*q)=val (pre++(x++post)):=by
 have hmod:val x-q*V=val x%V:=by have:=Nat.div_add_mod (val x) V;rw[hq,Nat.mul_comm];omega
 have hlt:=Nat.mod_lt (val x) h0;refine⟨by rw[hq,Nat.div_lt_iff_lt_mul h0,Nat.mul_comm];exact hV,?_,?_⟩;{rw[wF,pX,hpost,hmod];simpa using hlt};{rw[wF,wF,wF,wF,pX,hpost,hmod];simp only[Nat.mul_zero,Nat.add_zero];have:=Nat.div_add_mod (val x) V;rw[<-hq] at this;have e:V*(B^pre.length*q)=B^pre.length*(V*q):=Nat.mul_left_comm _ _ _;rw[e,Nat.add_assoc,<-Nat.mul_add];congr 2;omega}
end Go.Proofs.YtfainocfaddbdaaGreat
