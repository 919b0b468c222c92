/- A part of the proof: NtA, NtB, NtC, NtD, PnB. -/
import Derived.Test.YtboocdbmnfjomaaGreatR13
set_option linter.all false
namespace Go.Proofs.YtboocdbmnfjomaaGreat
open Go
set_option maxRecDepth 100000
theorem aI (l:List UInt32)(hl:l.length<2^44):zE 188 [nat l] (nat (zL (val l))):=by
 refine sF Tryz.f188 ?_;cbv;refine zZ (σ:=Nat) (λn=>⟨[(0,nat l),(2,.nil),(3,iV n)],[]⟩) (λn=>n<=l.length/\val (l.take n)=val l) (λn=>n) l.length ⟨yX _,by simp⟩ (.le ?_ trivial rfl) ?_;{cbv;exact⟨lR,lR,zG (by simp[zJ]),trivial⟩};intro n hn;cbv;refine zU (λh=>?_) (λh=>?_)
 ·(try dsimp only [z6] at *)
  obtain⟨m,rfl⟩:∃ m,n=m+1:=⟨n-1,by omega⟩;cbv;refine⟨zF om om,xM m om om ?_⟩;cbv;refine zH (λh2=>?_) (λh2=>?_)
  ·cbv;refine⟨zF om om,m,⟨om,?_⟩,om,.le ?_ trivial rfl⟩
   ·(have e:l.getD m 0=0:=by have:(l.getD m 0).toNat=0:=om;exact ZA.1 this);grind [aU,VT]
   {cbv;exact⟨lR,lR,zG om,trivial⟩}
  ·(cbv;refine zH (λh3=>om) (λh3=>?_);cbv;refine⟨qF om om om,i9 l,?_⟩;cbv;refine jT rfl ?_ rfl;refine zT ?_;have e:l.getD m 0≠0:=λe=>by (try dsimp only [z6] at *);simp_all);grind [Fm,lG,aU,eM]
 {cbv;refine zH (λh3=>?_) (λh3=>om);cbv;refine jT rfl ?_ rfl;refine xD ?_;have:n=0:=om;subst this;rw[<-hn.2];simp[val,yY,lm]}
theorem T6:ty 25=.sli 1 4 [.int .u32 (λ_=>0)]:=by cbv
theorem EK (l:List UInt32)(hl:l.length<2^40):zE 228 [nat l] (nat l):=by refine sF Tryz.f228 ?_;cbv;refine⟨λb hb=>?_⟩;cbv;refine zS (λh=>?_) (λh=>?_);{cbv;refine jT rfl ?_ rfl;exact xD (hb h)};{cbv;refine xY T6 rfl rfl rfl rfl rfl (i9 l) (z3 om (by simp only[dZ];(try dsimp only [z6] at *) <;> (try simp only[zJ] at *) <;> omega)) rfl ?_;cbv;refine Dz (.frz 7 rfl rfl ?_ ?_) rfl ?_ rfl;{cbv;exact⟨yB (by simp),yB (by simp),trivial⟩};{exact trivial};{refine zT ?_;simp}}
theorem Bh (l:List UInt32)(hl:l.length<2^40):zE 196 [nat l] (nat (zL (val l))):=by refine sF Tryz.f196 ?_;cbv;refine cA (aI l oM) ?_;cbv;refine cA (EK _ (xQ (yA l) hl)) ?_;cbv;refine jT rfl ?_ rfl;exact lR
theorem t5 {l:List UInt32}(h:l≠[]):bV l=(l.getD (l.length-1) 0 != 0):=by
 have:l=l.dropLast++[l.getD (l.length-1) 0]:=by rw[wK,<-List.getLast?_eq_getElem?,List.getLast?_eq_some_getLast h];exact (List.dropLast_concat_getLast h).symm
 grind [eM]
theorem SJ (x:UInt32):(x != 0)=!decide ((x.toNat:Int)=0):=by rw[rT];simp only[bne_iff_ne,ne_eq,Vs,decide_eq_false_iff_not];constructor;{intro h e;exact h (ZA.1 (by grind))};{intro h e;simp_all}
theorem EU (l:List UInt32)(hl:l.length<2^40):zE 129 [nat l] (zM (bV l)):=by
 refine sF Tryz.f129 ?_;cbv;refine zU (λh=>?_) (λh=>?_);{cbv;refine jT rfl ?_ rfl;refine yL ?_;have:l=[]:=gX om;subst this;rfl}
 ·(cbv;refine⟨zF om om,xM (l.length-1) om om ?_⟩;cbv;refine jT rfl ?_ rfl;refine v7 ?_;have hne:l≠[]:=λe=>by subst e;exact h rfl);rw[t5 hne]
  exact SJ _
theorem RN (x:Nat)(hx:x<B*B):zE 230 [.int .u64 (λ_=>(x:Int))] (nat (zL x)):=by
 refine sF Tryz.f230 ?_;cbv;refine⟨uJ oM,?_⟩;refine xE rfl (by
  (refine⟨zT ?_,trivial⟩;have h1:ishr .u64 (x:Int) 32=((x/B:Nat):Int):=by unfold ishr;simp[IntKind.bits,B,Sn]);have h2:x/B<B:=Nat.div_lt_of_lt_mul hx;simp only[zK,xC,toD,lm,j3,UQ,z6,h1,fG,aX];grind [UInt32.toNat_ofNat',B]) (aI [UInt32.ofNat (x%B),UInt32.ofNat (x/B)] (by simp)) rfl ?_
 cbv;refine jT rfl ?_ rfl;refine zT ?_;have h2:x/B<B:=Nat.div_lt_of_lt_mul hx;have:val [UInt32.ofNat (x%B),UInt32.ofNat (x/B)]=x:=by simp only[val,aX];rw[UInt32.toNat_ofNat',kP (show x/B<2^32 from h2),Nat.mul_zero,t9];exact Vo x B
 rw[this]
theorem HL (a b:List UInt32)(ha:a.length<2^40)(hb:b.length<2^40):zE 130 [nat a,nat b] (iV (qZ (val a) (val b))):=by
 refine sF Tryz.f130 ?_;cbv;refine cA (aI a oM) ?_;cbv;refine cA (aI b oM) ?_;cbv;have ha':=xQ (yA a) ha;have hb':=xQ (yA b) hb;refine zH (λh=>?_) (λh=>?_)
 ·cbv;have hl:(zL (val a)).length=(zL (val b)).length:=om;refine⟨zF om om,?_⟩;refine zZ (σ:=Nat) (λn=>⟨[(0,nat (zL (val a))),(1,nat (zL (val b))),(5,iV ((n:Int)-1))],[]⟩) (λn=>n<=(zL (val a)).length/\(zL (val a)).drop n=(zL (val b)).drop n) (λn=>n) (zL (val a)).length ⟨yX _,by simp[hl]⟩ (.le ?_ trivial rfl) ?_;{cbv;exact⟨lR,lR,zG (by (try dsimp only [z6] at *) <;> (grind [zJ]) <;> omega),trivial⟩};intro n hn;cbv;refine zH (λh2=>?_) (λh2=>?_)
  ·(try dsimp only [z6] at *)
   obtain⟨m,rfl⟩:∃ m,n=m+1:=⟨n-1,by omega⟩;cbv;refine zP 9 (by cbv) ?_;cbv;refine xM m om om ?_;cbv;refine xM m om om ?_;cbv;refine zH (λh3=>?_) (λh3=>?_)
   ·cbv;refine⟨zF om om,m,⟨om,?_⟩,om,.le ?_ trivial rfl⟩
    ·(try dsimp only [z6] at *)
     grind [UInt32.toNat_inj,List.drop_eq_getElem_cons]
    {cbv;exact⟨lR,lR,zG om,trivial⟩}
   {cbv;refine zP 9 (by cbv) ?_;cbv;refine xM m om om ?_;cbv;refine xM m om om ?_;cbv;refine zH (λh4=>?_) (λh4=>?_);{cbv;refine jT rfl ?_ rfl;refine zG ?_;have:=A4 (a:=zL (val a)) (b:=zL (val b)) (m:=m) om om hn.2 om;rw[zQ,zQ] at this;rw[Xg this]};{cbv;refine jT rfl ?_ rfl;refine zG ?_;have:=A4 (a:=zL (val b)) (b:=zL (val a)) (m:=m) om om hn.2.symm om;rw[zQ,zQ] at this;rw[Xh this]}}
  ·(cbv;refine jT rfl ?_ rfl;refine zG ?_;have h0:n=0:=om;subst h0;have e:zL (val a)=zL (val b):=by grind);have:val a=val b:=by grind [zQ]
   rw[this,Q6]
 {cbv;refine zH (λh2=>?_) (λh2=>?_);{cbv;refine jT rfl ?_ rfl;refine zG ?_;rw[Xg (Zw om)]};{cbv;refine jT rfl ?_ rfl;refine zG ?_;rw[Xh (Zw om)]}}
theorem B3 (l:List UInt32)(i:Nat)(x:UInt32):(lm l).set i [.int .u32 x.toNat]=lm (l.set i x):=by simp[lm,List.map_set]
theorem sX (n:Nat):ishr .u64 (n:Int) 32=((n/B:Nat):Int):=by unfold ishr;simp[IntKind.bits,B,Sn]
theorem fZ (out:List UInt32){k j:Nat}(hk:k=j)(d:Nat):(lm out).set k [.int .u32 (nx .u32 ((d:Nat):Int))]=lm (out.set j (UInt32.ofNat d)):=by subst hk;rw[<-B3,x6,fG];simp[B]
theorem EM (a b:List UInt32)(ha:a.length<2^40)(hb:b.length<2^40):zE 194 [nat a,nat b] (nat (zL (val a+val b))):=by
 refine sF Tryz.f194 ?_;cbv;refine cA (aI a oM) ?_;cbv;refine cA (aI b oM) ?_;cbv;have ha':=xQ (yA a) ha;have hb':=xQ (yA b) hb;refine jZ (σ:=List UInt32×List UInt32) (λs=>⟨[(0,nat s.1),(1,nat s.2),(4,.nil)],[]⟩) (λs=>s.2.length<=s.1.length/\s.1.length<2^40/\val s.1+val s.2=val a+val b) (λh=>?_) (λh=>?_) ?_;{cbv;refine⟨(zL (val b),zL (val a)),⟨om,hb',by grind [zQ]⟩,.le ?_ trivial rfl⟩;cbv;exact okA};{cbv;refine⟨(zL (val a),zL (val b)),⟨om,ha',by simp only[zQ]⟩,.le ?_ trivial rfl⟩;cbv;exact okA};intro s hs;obtain⟨hpq,hp,hv⟩:=hs;generalize s.1=p at *;generalize s.2=q at *;cbv;refine⟨zF om om,z3 om om,uW om om,?_⟩;cbv;refine zZ (σ:=Nat×Nat×List UInt32) (λs=>⟨[(0,nat p),(1,nat q),(5,zW 23 1 (p.length+1)),(6,.int .u64 (λ_=>(s.2.1:Int))),(24,nat p),(25,iV p.length),(26,iV s.1)],[(23,z5 1 (lm s.2.2))]⟩)
  (λs=>s.1<=p.length/\s.2.1<2/\s.2.2.length=p.length+1/\val (s.2.2.take s.1)+B^s.1*s.2.1=val (p.take s.1)+val (q.take s.1)) (λs=>p.length-s.1)
  (0,0,List.replicate (p.length+1) 0) ⟨om,om,by simp,by simp[val]⟩ (.le ?_ ?_ rfl) ?_
 {cbv;exact⟨lR,lR,zR rfl om,lR,lR,zG (by (try dsimp only [z6] at *) <;> (grind [zJ]) <;> omega),lR,trivial⟩}
 ·(cbv;refine⟨zC ?_,trivial⟩;show List.replicate (((lm p).length:Int)+1).toNat _=_;have:(((lm p).length:Int)+1).toNat=p.length+1:=by grind [zJ]);rw[this]
  simp[lm,xC,toD]
 intro s hs;obtain⟨h1,h2,h3,h4⟩:=hs;generalize s.1=i at *;generalize s.2.1=c at *;generalize s.2.2=out at *;cbv;refine zH (λh5=>?_) (λh5=>?_)
 ·cbv;refine xM i (by (grind) <;> (try simp only[zJ] at *) <;> omega) om ?_;cbv;have hpi:=yV (p.getD i 0);have hqi:=yV (q.getD i 0);simp only[B] at hpi hqi;refine jZ (σ:=Unit) (λ_=>⟨[(0,nat p),(1,nat q),(5,zW 23 1 (p.length+1)),(6,.int .u64 (λ_=>((c+(p.getD i 0).toNat+(q.getD i 0).toNat:Nat):Int))),(7,iV i),(24,nat p),(25,iV p.length),(26,iV i)],[(23,z5 1 (lm out))]⟩) (λ_=>True) (λh6=>?_) (λh6=>?_) ?_
  ·cbv;refine xM i (by (grind) <;> (try simp only[zJ] at *) <;> omega) om ?_;cbv;refine⟨(),trivial,.le ?_ ?_ rfl⟩
   ·cbv;refine⟨lR,lR,lR,zG ?_,lR,lR,lR,lR,trivial⟩
    (try dsimp only [z6] at *)
    grind [uR]
   {cbv;exact⟨zC rfl,trivial⟩}
  ·cbv;refine⟨(),trivial,.le ?_ ?_ rfl⟩
   ·cbv;refine⟨lR,lR,lR,zG ?_,lR,lR,lR,lR,trivial⟩;have:(q.getD i 0).toNat=0:=by have:q.length<=i:=om;simp_all
    (try dsimp only [z6] at *)
    grind [uR]
   {cbv;exact⟨zC rfl,trivial⟩}
  intro _ _;generalize hd:c+(p.getD i 0).toNat+(q.getD i 0).toNat=d;cbv;refine⟨yD om om,gU i (by simp) om ?_⟩;cbv;refine⟨uJ oM,zF om om,(i+1,d/B,out.set i (UInt32.ofNat d)),⟨om,?_,by grind,?_⟩,om,.le ?_ ?_ rfl⟩;{grind [B]}
  ·(show val ((out.set i (UInt32.ofNat d)).take (i+1))+B^(i+1)*(d/B)=val (p.take (i+1))+val (q.take (i+1));rw[qE _ om,z9 p,z9 q,x6];have e1:B^i*(d%B)+B^(i+1)*(d/B)=B^i*d:=by rw[uL,gI,<-kV,Vo]);grind
  {cbv;refine⟨lR,lR,lR,zG (sX d),lR,lR,zG om,trivial⟩};{cbv;exact⟨zC (fZ out (by simp) d),trivial⟩}
 {cbv;refine⟨yD om om,gU p.length (by simp[zJ]) om ?_⟩;cbv;have hi:i=p.length:=om;subst hi;refine j2 (.trans (.le (ps':=⟨[(60,zW 23 1 (p.length+1))],[(23,z5 1 (lm (out.set p.length (UInt32.ofNat c))))]⟩) ?_ ?_ rfl) (.frz 23 rfl rfl ?_ ?_)) rfl (by refine⟨zT ?_,trivial⟩;grind [zJ]) (aI (out.set p.length (UInt32.ofNat c)) (by grind)) rfl ?_;{cbv;exact okA};{cbv;exact⟨zC (fZ out (by simp[zJ]) c),trivial⟩};{cbv;exact⟨yB (by grind [zJ]),trivial⟩};{exact trivial};cbv;refine jT rfl ?_ rfl;refine zT ?_;congr 2;have e:=qE out (n:=p.length) oM (UInt32.ofNat c);rw[yW (by grind),x6,kP (show c<B by grind [B]),h4,yW (yX _),yW hpq] at e;omega}
theorem fY (out:List UInt32){k j:Nat}(hk:k=j){z:Int}{w:Nat}(hz:z=(w:Int))(hw:w<B):(lm out).set k [.int .u32 z]=lm (out.set j (UInt32.ofNat w)):=by subst hk hz;rw[<-B3,x6,kP hw]
theorem Ad (z:Int):ishr .u64 z 63=z/9223372036854775808:=by unfold ishr;simp[IntKind.bits,Sn]
theorem LG (a b:List UInt32)(ha:a.length<2^40)(hb:b.length<2^40):zE 195 [nat a,nat b] (.tup [nat (zL (val a-val b)),iV (if val b<=val a then 0 else 2)]):=by
 refine sF Tryz.f195 ?_;cbv;refine cA (aI a oM) ?_;cbv;refine cA (aI b oM) ?_;cbv;have ha':=xQ (yA a) ha;have hb':=xQ (yA b) hb;refine cA (HL _ _ ha' hb') ?_;cbv;simp only[zQ];refine zH (λh=>?_) (λh=>?_)
 ·(have h':val a<val b:=by grind [Q6,Xh]);cbv
  refine jT rfl ?_ rfl;refine⟨xD ?_,zG ?_,trivial⟩;{rw[Nat.sub_eq_zero_of_le oM,yY];rfl};omega
 have hle:val b<=val a:=by grind [Xg]
 have hv:val (zL (val a))=val a:=zQ _;have hv2:val (zL (val b))=val b:=zQ _;have hpq:(zL (val b)).length<=(zL (val a)).length:=by rcases kO (zL (val a)).length (zL (val b)).length with h1|h1;{have:=Zw h1;omega};omega
 generalize zL (val a)=p at *;generalize zL (val b)=q at *;cbv;refine⟨z3 om om,uW om om,?_⟩;cbv;refine zZ (σ:=Nat×Nat×List UInt32) (λs=>⟨[(0,nat p),(1,nat q),(6,zW 21 1 p.length),(7,.int .u64 (λ_=>(s.2.1:Int))),(22,nat p),(23,iV p.length),(24,iV s.1)],[(21,z5 1 (lm s.2.2))]⟩)
  (λs=>s.1<=p.length/\s.2.1<2/\s.2.2.length=p.length/\val (s.2.2.take s.1)+val (q.take s.1)=val (p.take s.1)+B^s.1*s.2.1) (λs=>p.length-s.1)
  (0,0,List.replicate p.length 0) ⟨om,om,by simp,by simp[val]⟩ (.le ?_ ?_ rfl) ?_
 {cbv;exact⟨lR,lR,zR rfl om,lR,lR,zG (by (try dsimp only [z6] at *) <;> (grind [zJ]) <;> omega),lR,trivial⟩}
 ·(cbv;refine⟨zC ?_,trivial⟩;show List.replicate (((lm p).length:Int)).toNat _=_;have:(((lm p).length:Int)).toNat=p.length:=by grind [zJ]);rw[this]
  simp[lm,xC,toD]
 intro s hs;obtain⟨h1,h2,h3,h4⟩:=hs;generalize s.1=i at *;generalize s.2.1=c at *;generalize s.2.2=out at *;cbv;refine zH (λh5=>?_) (λh5=>?_)
 ·cbv;refine xM i (by (grind) <;> (try simp only[zJ] at *) <;> omega) om ?_;cbv;have hpi:=yV (p.getD i 0);have hqi:=yV (q.getD i 0);simp only[B] at hpi hqi;refine jZ (σ:=Unit) (λ_=>⟨[(0,nat p),(1,nat q),(6,zW 21 1 p.length),(10,.int .u64 (λ_=>nx .u64 (((p.getD i 0).toNat:Int)-(c:Int)-((q.getD i 0).toNat:Int)))),(8,iV i),(22,nat p),(23,iV p.length),(24,iV i)],[(21,z5 1 (lm out))]⟩) (λ_=>True) (λh6=>?_) (λh6=>?_) ?_
  ·cbv;refine xM i (by (grind) <;> (try simp only[zJ] at *) <;> omega) om ?_;cbv;refine⟨(),trivial,.le ?_ ?_ rfl⟩
   ·cbv;refine⟨lR,lR,lR,zG ?_,lR,lR,lR,lR,trivial⟩
    (try dsimp only [z6] at *)
    grind [uR]
   {cbv;exact⟨zC rfl,trivial⟩}
  ·cbv;refine⟨(),trivial,.le ?_ ?_ rfl⟩
   ·cbv;refine⟨lR,lR,lR,zG ?_,lR,lR,lR,lR,trivial⟩;have:(q.getD i 0).toNat=0:=by have:q.length<=i:=om;simp_all
    (try dsimp only [z6] at *)
    grind [uR]
   {cbv;exact⟨zC rfl,trivial⟩}
  intro _ _;obtain⟨w,c',hw,hc',he⟩:∃ w c':Nat,w<B/\c'<2/\(p.getD i 0).toNat+B*c'=w+c+(q.getD i 0).toNat:=by simp only[B];by_cases hlt:(p.getD i 0).toNat<c+(q.getD i 0).toNat;{exact⟨(p.getD i 0).toNat+4294967296-c-(q.getD i 0).toNat,1,by omega,by omega,by omega⟩};{exact⟨(p.getD i 0).toNat-c-(q.getD i 0).toNat,0,by omega,by omega,by omega⟩}
  (have hz:nx .u64 (((p.getD i 0).toNat:Int)-(c:Int)-((q.getD i 0).toNat:Int))=if c'=0 then (w:Int) else (w:Int)+18446744069414584320:=by grind [uR,B]);simp only[hz]
  cbv;refine⟨yD om om,gU i (by simp) om ?_⟩;cbv;refine⟨uJ oM,zF om om,(i+1,c',out.set i (UInt32.ofNat w)),⟨om,hc',by grind,?_⟩,om,.le ?_ ?_ rfl⟩;{show val ((out.set i (UInt32.ofNat w)).take (i+1))+val (q.take (i+1))=val (p.take (i+1))+B^(i+1)*c';rw[qE _ om,z9 p,z9 q,x6,kP hw];grind};{cbv;refine⟨lR,lR,lR,zG ?_,lR,lR,zG om,trivial⟩;grind [Ad,B]};{cbv;refine⟨zC (fY out (by simp) ?_ hw),trivial⟩;grind [fG,B]}
 ·(cbv;have hi:i=p.length:=om;subst hi;refine j2 (.trans (.le (ps':=⟨[(52,zW 21 1 p.length)],[(21,z5 1 (lm out))]⟩) ?_ ?_ rfl) (.frz 21 rfl rfl ?_ ?_)) rfl (by refine⟨zT ?_,trivial⟩;grind [zJ]) (aI out oM) rfl ?_;{cbv;exact okA};{cbv;exact⟨zC rfl,trivial⟩};{cbv;exact⟨yB (by grind [zJ]),trivial⟩};{exact trivial};cbv;refine jT rfl ?_ rfl;rw[yW oM,yW hpq,yW (yX _)] at h4;have hlo:=x8 out;have hlq:=x8 q;have hc0:c=0:=by grind);subst hc0;refine⟨zT ?_,zG ?_,trivial⟩
  all_goals grind
theorem x9 {n:Nat}(h:n<18446744073709551616):nx .u64 (n:Int)=(n:Int):=by grind [uR]
theorem Dv (a b:List UInt32)(ha:a.length<2^40)(hb:b.length<2^40):zE 151 [nat a,nat b] (nat (zL (val a*val b))):=by
 refine sF Tryz.f151 ?_;cbv;refine cA (aI a oM) ?_;cbv;refine cA (aI b oM) ?_;cbv;have ha':=xQ (yA a) ha;have hb':=xQ (yA b) hb;have hv:val (zL (val a))=val a:=zQ _;have hv2:val (zL (val b))=val b:=zQ _;generalize zL (val a)=p at *;generalize zL (val b)=q at *
 
 refine zU (λh=>?_) (λh=>?_);{cbv;refine jT rfl ?_ rfl;refine xD ?_;have:p=[]:=gX om;subst this;rw[<-hv];simp[val,yY,lm]};cbv;refine zH (λh'=>?_) (λh'=>?_);{cbv;refine jT rfl ?_ rfl;refine xD ?_;have:q=[]:=gX om;subst this;rw[<-hv2];simp[val,yY,lm]};cbv;refine⟨zF om om,z3 om om,uW om om,?_⟩;cbv;refine zZ (σ:=Nat×List UInt32) (λs=>⟨[(0,nat p),(1,nat q),(5,zW 28 1 (p.length+q.length)),(29,nat p),(30,iV p.length),(31,iV s.1)],[(28,z5 1 (lm s.2))]⟩)
  (λs=>s.1<=p.length/\s.2.length=p.length+q.length/\val s.2=val (p.take s.1)*val q/\∀ j,s.1+q.length<=j->s.2.getD j 0=0) (λs=>p.length-s.1)
  (0,List.replicate (p.length+q.length) 0) ⟨om,by simp,by simp[val,fS],λj _=>by grind⟩ (.le ?_ ?_ rfl) ?_
 {cbv;exact⟨lR,lR,zR rfl om,lR,zG (by (try dsimp only [z6] at *) <;> (grind [zJ]) <;> omega),lR,trivial⟩}
 ·(cbv;refine⟨zC ?_,trivial⟩;show List.replicate (((lm p).length:Int)+((lm q).length:Int)).toNat _=_;have:(((lm p).length:Int)+((lm q).length:Int)).toNat=p.length+q.length:=by grind [zJ]);rw[this]
  simp[lm,xC,toD]
 intro s hs;obtain⟨h1,h2,h3,h4⟩:=hs;generalize s.1=i at *;generalize s.2=out at *;cbv;refine zH (λh5=>?_) (λh5=>?_)
 ·cbv;refine xM i (by (grind) <;> (try simp only[zJ] at *) <;> omega) om ?_;cbv;have hx:=yV (p.getD i 0);generalize hpx:(p.getD i 0).toNat=x at *;refine zZ (σ:=Nat×Nat×List UInt32) (λs=>⟨[(0,nat p),(1,nat q),(5,zW 28 1 (p.length+q.length)),(29,nat p),(30,iV p.length),(31,iV i),(6,iV i),(7,.int .u32 (λ_=>(x:Int))),(8,.int .u64 (λ_=>(s.2.1:Int))),(36,nat q),(37,iV q.length),(38,iV s.1)],[(28,z5 1 (lm s.2.2))]⟩)
   (λs=>s.1<=q.length/\s.2.1<B/\s.2.2.length=p.length+q.length/\val s.2.2+B^(i+s.1)*s.2.1=val (p.take i)*val q+B^i*(x*val (q.take s.1))/\∀ j,i+q.length<=j->s.2.2.getD j 0=0) (λs=>q.length-s.1)
   (0,0,out) ⟨om,uB,h2,by simp[val,h3],h4⟩ (.le ?_ ?_ rfl) ?_
  {cbv;exact⟨lR,lR,lR,lR,lR,lR,lR,lR,lR,lR,zG (by (try dsimp only [z6] at *) <;> (grind [zJ]) <;> omega),lR,trivial⟩};{cbv;exact⟨zC rfl,trivial⟩};intro s hs;obtain⟨g1,g2,g3,g4,g5⟩:=hs;generalize s.1=k at *;generalize s.2.1=c at *;generalize s.2.2=out' at *;cbv;refine zH (λh6=>?_) (λh6=>?_)
  ·(cbv;refine xM k (by (grind) <;> (try simp only[zJ] at *) <;> omega) om ?_;cbv;have hik:0+((i:Int)+(k:Int)).toNat=i+k:=by omega);refine⟨zF om om,yD om om,gU (i+k) hik om ?_⟩
   (cbv;refine⟨zF om om,yD om om,gU (i+k) hik om ?_⟩;cbv;have hy:=yV (q.getD k 0);have ho:=yV (out'.getD (i+k) 0);have hset:=rH out' (j:=i+k) om (UInt32.ofNat (c+(x*(q.getD k 0).toNat+(out'.getD (i+k) 0).toNat)));have htk:=z9 q k;generalize hqy:(q.getD k 0).toNat=y at *;generalize hoo:(out'.getD (i+k) 0).toNat=o at *;have hm:x*y<=4294967295*4294967295:=FU (by grind [B]) (by grind [B]);have hB:B=4294967296:=rfl;have hT:nx .u64 ((c:Int)+nx .u64 (nx .u64 (nx .u64 (x:Int)*nx .u64 (y:Int))+nx .u64 (o:Int)))=((c+(x*y+o):Nat):Int):=by rw[x9 (n:=x) oM,x9 (n:=y) oM,x9 (n:=o) oM,<-Int.natCast_mul,x9 (n:=x*y) oM,<-Int.natCast_add,x9 (n:=x*y+o) oM,<-Int.natCast_add,x9 oM]);refine⟨uJ oM,zF om om,(k+1,(c+(x*y+o))/B,out'.set (i+k) (UInt32.ofNat (c+(x*y+o)))),⟨om,?_,by grind,?_,?_⟩,om,.le ?_ ?_ rfl⟩
   {grind}
   ·show val (out'.set (i+k) (UInt32.ofNat (c+(x*y+o))))+B^(i+(k+1))*((c+(x*y+o))/B)=val (p.take i)*val q+B^i*(x*val (q.take (k+1)));rw[htk];rw[x6] at hset;have e0:∀ t,B^(i+k)*(t%B)+B^(i+(k+1))*(t/B)=B^(i+k)*t:=by
     (intro t;have:i+(k+1)=(i+k)+1:=by omega);rw[this,uL,gI,<-kV,Vo]
    grind
   {intro j hj;show (out'.set (i+k) _).getD j 0=0;rw[tT _ _ _ _ (by exact om)];grind};{cbv;refine⟨lR,lR,lR,lR,lR,lR,lR,lR,zG ?_,lR,lR,zG om,trivial⟩;exact (congrArg (λz=>ishr .u64 z 32) hT).trans (sX _)};{cbv;refine⟨zC ?_,trivial⟩;exact (congrArg (λz=>(lm out').set (0+((i:Int)+(k:Int)).toNat) [.int .u32 (nx .u32 z)]) hT).trans (fZ out' hik _)}
  ·(cbv;have hkq:k=q.length:=om;subst hkq;have hlq:0+((i:Int)+((lm q).length:Int)).toNat=i+q.length:=by grind [zJ]);refine⟨zF om om,yD om om,gU (i+q.length) hlq om ?_⟩
   cbv;refine⟨zF om om,(i+1,out'.set (i+q.length) (UInt32.ofNat c)),⟨om,by grind,?_,?_⟩,om,.le ?_ ?_ rfl⟩;{show val (out'.set (i+q.length) (UInt32.ofNat c))=val (p.take (i+1))*val q;have hset:=rH out' (j:=i+q.length) om (UInt32.ofNat c);rw[g5 _ (yX _),x6,kP g2] at hset;rw[yW (yX _)] at g4;rw[z9 p,hpx,jR,gI];grind};{grind [tT]};{cbv;exact⟨lR,lR,lR,lR,lR,zG om,trivial⟩};{cbv;exact⟨zC (fZ out' hlq c),trivial⟩}
 {cbv;have hip:i=p.length:=om;subst hip;refine j2 (.trans (.le (ps':=⟨[(77,zW 28 1 (p.length+q.length))],[(28,z5 1 (lm out))]⟩) ?_ ?_ rfl) (.frz 28 rfl rfl ?_ ?_)) rfl (by refine⟨zT ?_,trivial⟩;grind [zJ]) (aI out oM) rfl ?_;{cbv;exact okA};{cbv;exact⟨zC rfl,trivial⟩};{cbv;exact⟨yB (by grind [zJ]),trivial⟩};{exact trivial};cbv;refine jT rfl ?_ rfl;rw[yW (yX _)] at h3;refine zT ?_;grind}
end Go.Proofs.YtboocdbmnfjomaaGreat
namespace Go.Proofs.YtboocdbmnfjomaaGreat
def pad (n m:Nat):List UInt32:=zL n++List.replicate (m-(zL n).length) 0
theorem HX {l:List UInt32}{n m:Nat}(hl:l.length=m)(hv:val l=n):l=pad n m:=by
 have h1:(zL n).length<=m:=by rw[<-hv,<-hl];exact yA l
 refine YW ?_ ?_
 all_goals grind [pad,vQ,fS,zQ]
theorem sS {n m:Nat}(h:n<B^m):(pad n m).length=m:=by have:=yM h;grind [pad]
theorem oC (n m:Nat):val (pad n m)=n:=by grind [pad,vQ,fS,zQ]
theorem Ck {l:List UInt32}{n:Nat}(hl:l.length=n+2):val l=val (l.take n)+B^n*((l.getD (n+1) 0).toNat*B+(l.getD n 0).toNat):=by have h1:=z9 l n;have h2:=z9 l (n+1);rw[List.take_of_length_le (by omega)] at h2;rw[h2,h1,Nat.pow_succ,Nat.mul_add,Nat.mul_assoc,Nat.mul_comm B];omega
theorem Cj {l:List UInt32}{n:Nat}(hl:l.length=n+3):val l=val (l.take n)+B^n*(((l.getD (n+2) 0).toNat*B+(l.getD (n+1) 0).toNat)*B+(l.getD n 0).toNat):=by
 have h1:=z9 l n;have h2:=z9 l (n+1);have h3:=z9 l (n+2);rw[List.take_of_length_le (by omega)] at h3;rw[h3,h2,h1];have e:B^(n+2)=B^n*(B*B):=by grind
 rw[e,Nat.pow_succ,Nat.mul_add,Nat.add_mul,Nat.mul_add,Nat.mul_assoc,Nat.mul_assoc];grind
structure EstInv (U V P top v1 v2 u2:Nat) (q r:Nat):Prop where
 top:q*v1+r=top
 lo:U<(q+1)*V
theorem AN {U V P top v1 v2 u2 ur vr:Nat}(hv1:0<v1)(hU:U=ur+P*(top*B+u2))(hV:V=vr+P*(v1*B+v2))(hur:ur<P)(hu2:u2<B):EstInv U V P top v1 v2 u2 (top/v1) (top%v1):=by
 refine⟨by rw[Nat.mul_comm];exact Nat.div_add_mod top v1,?_⟩;have h1:top+1<=(top/v1+1)*v1:=by have:=Nat.div_add_mod top v1;have:=Nat.mod_lt top hv1;grind
 have h2:(top+1)*B<=(top/v1+1)*(v1*B+v2):=by rw[Nat.mul_add,<-Nat.mul_assoc];exact Nat.le_trans (Nat.mul_le_mul_right B h1) (Nat.le_add_right _ _)
 have h3:top*B+u2+1<=(top+1)*B:=by grind
 have h4:=Nat.mul_le_mul_left P (Nat.le_trans h3 h2);have h5:(top/v1+1)*V=(top/v1+1)*vr+P*((top/v1+1)*(v1*B+v2)):=by grind
 have h6:P*(top*B+u2+1)=P*(top*B+u2)+P:=by grind
 omega
theorem AM {U V P top v1 v2 u2 ur vr q r:Nat}(hU:U=ur+P*(top*B+u2))(hV:V=vr+P*(v1*B+v2))(hur:ur<P) (ht:q*v1+r=top) (h:r*B+u2<q*v2):U<q*V:=by
 have h1:top*B+u2+1<=q*(v1*B+v2):=by rw[<-ht,Nat.mul_add,Nat.add_mul,Nat.mul_assoc];omega
 have h2:=Nat.mul_le_mul_left P h1;have h3:q*V=q*vr+P*(q*(v1*B+v2)):=by grind
 have h4:P*(top*B+u2+1)=P*(top*B+u2)+P:=by grind
 omega
theorem AK {U V P top v1 v2 u2 q r:Nat}(hq:0<q)(ht:q*v1+r=top)(h:U<q*V):EstInv U V P top v1 v2 u2 (q-1) (r+v1):=by obtain⟨k,rfl⟩:∃ k,q=k+1:=⟨q-1,by omega⟩;refine⟨?_,by grind⟩;grind
theorem UI {U V P top v1 v2 u2 ur vr q r:Nat}(hv1:0<v1)(hU:U=ur+P*(top*B+u2))(hV:V=vr+P*(v1*B+v2))(hvr:vr<P) (ht:q*v1+r=top) (hq:q<=B) (h:q*v2<=r*B+u2):q*V<=U+V:=by
 have h1:q*(v1*B+v2)<=top*B+u2:=by rw[<-ht,Nat.mul_add,Nat.add_mul,Nat.mul_assoc];omega
 have h2:=Nat.mul_le_mul_left P h1;have h3:q*V=q*vr+P*(q*(v1*B+v2)):=by grind
 have h4:q*vr<=B*P:=Nat.mul_le_mul hq (Nat.le_of_lt hvr);have h5:B*P<=P*(v1*B+v2):=by rw[Nat.mul_comm B P];refine Nat.mul_le_mul_left P (Nat.le_trans (?_:B<=v1*B) (Nat.le_add_right _ _));exact Nat.le_mul_of_pos_left B hv1
 omega
def iA (v1 v2 u2 q r:Nat):Nat :=
 if h:B<=r\/v1=0 then q
 else if B<=q\/r*B+u2<q*v2 then (if B<=r+v1 then q-1 else iA v1 v2 u2 (q-1) (r+v1)) else q
termination_by B-r
decreasing_by omega
structure Est (U V q:Nat):Prop where
 b:q<B
 lo:U<(q+1)*V
 hi:q*V<=U+V
theorem JQ {U V P top v1 v2 u2 ur vr:Nat}(hv1:0<v1)(hv2:v2<B)(hu2:u2<B)(hU:U=ur+P*(top*B+u2))(hV:V=vr+P*(v1*B+v2))(hur:ur<P)(hvr:vr<P)(hlt:U<B*V)(htop:top<v1*B+B):∀ n q r,B-r<=n->EstInv U V P top v1 v2 u2 q r->r<B->q<=B+1->Est U V (iA v1 v2 u2 q r)
 |0,q,r,hn,hi,hr,hq=>by omega| n+1,q,r,hn,hi,hr,hq=>by
  rw[iA];rw[dif_neg (by omega)];by_cases hc:B<=q\/r*B+u2<q*v2
  ·(rw[if_pos hc];have hq0:0<q:=by grind);have hover:U<q*V:=by rcases hc with h|h;{exact Nat.lt_of_lt_of_le hlt (Nat.mul_le_mul_right V h)};{exact AM hU hV hur hi.top h}
   have hst:=AK (P:=P) (v2:=v2) (u2:=u2) hq0 hi.top hover;by_cases h2:B<=r+v1
   ·(rw[if_pos h2];have hqB:q-1<B:=by rcases Nat.lt_or_ge (q-1) B with h|h;{exact h};{have h3:=hst.top;have h4:=Nat.mul_le_mul_right v1 h;rw[Nat.mul_comm B v1] at h4;omega});refine⟨hqB,hst.lo,UI (r:=r+v1) (v2:=v2) (u2:=u2) hv1 hU hV hvr hst.top (Nat.le_of_lt hqB) ?_⟩;have h5:(q-1)*v2<=B*B:=Nat.mul_le_mul (Nat.le_of_lt hqB) (Nat.le_of_lt hv2);grind [B]
   {rw[if_neg h2];exact JQ hv1 hv2 hu2 hU hV hur hvr hlt htop n _ _ (by omega) hst (by omega) (by omega)}
  ·(rw[if_neg hc];have h1:q<B:=by omega);exact⟨h1,hi.lo,UI hv1 hU hV hvr hi.top (Nat.le_of_lt h1) (by omega)⟩
def YI (U V q:Nat):Nat:=if q*V<=U then q else q-1
theorem A1 {U V q:Nat}(hV:0<V)(h:Est U V q):YI U V q=U/V:=by
 unfold YI;split;{rename_i h1;exact (Nat.div_eq_of_lt_le h1 h.lo).symm}
 ·(rename_i h1;have h1:U<q*V:=by omega);have hq:q≠0:=λe=>by grind
  obtain⟨k,rfl⟩:∃ k,q=k+1:=⟨q-1,by omega⟩;have h2:=h.hi;rw[Nat.add_mul,Nat.one_mul] at h2;grind [Nat.div_eq_of_lt_le]
theorem oE {l:List UInt32}(n:Nat)(h:n<=l.length):val l=val (l.take n)+B^n*val (l.drop n):=by
 have e:(l.take n).length=n:=by grind
 calc val l=val (l.take n++l.drop n):=by simp_all
  _=_:=by rw[vQ,e]
theorem jL {l:List UInt32}{i:Nat}(h:i<l.length):val (l.drop i)=(l.getD i 0).toNat+B*val (l.drop (i+1)):=by
 have:l.drop i=l.getD i 0::l.drop (i+1):=by simp_all
 rw[this];rfl
theorem Xn {l:List UInt32}(n:Nat)(hn:n<=l.length)(h:val l<B^n):val (l.drop n)=0:=by have h1:=oE n hn;rcases Nat.eq_zero_or_pos (val (l.drop n)) with h2|h2;{exact h2};{have:=Nat.mul_le_mul_left (B^n) h2;omega}
theorem D5 {pre x post:List UInt32}{V n q:Nat}(hx:x.length=n+1)(hpost:val post=0)(hV:val x<V*B)(hVn:V<B^n)(h0:0<V)(hq:q=val x/V):q<B/\val (pad (val x-q*V) (n+1)++post)<V /\ val (pre++(pad (val x-q*V) (n+1)++post))+V*(B^pre.length*q)=val (pre++(x++post)):=by
 have hmod:val x-q*V=val x%V:=by grind [Nat.div_add_mod]
 have hlt:=Nat.mod_lt (val x) h0;refine⟨by rw[hq,Nat.div_lt_iff_lt_mul h0,Nat.mul_comm];exact hV,?_,?_⟩;{grind [vQ,oC]};{rw[vQ,vQ,vQ,vQ,oC,hpost,hmod];simp only[Nat.mul_zero,Nat.add_zero];grind [Nat.div_add_mod]}
end Go.Proofs.YtboocdbmnfjomaaGreat
