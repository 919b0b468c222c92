/- A part of the proof: NtA, NtB, NtC, NtD, PnB. -/
import Derived.Test.YtaeaffgjdcigoaaGreatC13
set_option linter.all false
namespace Go.Proofs.YtaeaffgjdcigoaaGreat
open Go
set_option maxRecDepth 100000
theorem cL (l:List UInt32)(hl:l.length<2^44):zE 265 [nat l] (nat (zK (val l))):=by
 refine sF Tryz.f265 ?_;cbv;refine z3 (σ:=Nat) (fun n=>⟨[(0,nat l),(2,.nil),(3,.int .i64 (fun _=>(n:Int)))],[]⟩) (fun n=>n<=l.length/\val (l.take n)=val l) (fun n=>n) l.length ⟨zZ _,by simp⟩ (.le ?_ trivial rfl) ?_;{cbv;exact⟨lR,lR,zC (by simp[zH]),trivial⟩};intro n hn;cbv;refine zQ (fun h=>?_) (fun h=>?_)
 ·(try dsimp only [zF] at *)
  obtain⟨m,rfl⟩:∃ m,n=m+1:=⟨n-1,by omega⟩;cbv;refine⟨zD om om,xG m om om ?_⟩;cbv;refine zG (fun h2=>?_) (fun h2=>?_)
  ·cbv;refine⟨zD om om,m,⟨om,?_⟩,om,.le ?_ trivial rfl⟩
   ·(have e:l.getD m 0=0:=by have:(l.getD m 0).toNat=0:=om;exact zC0.1 this);grind [aB,zFQ]
   {cbv;exact⟨lR,lR,zC om,trivial⟩}
  ·(cbv;refine zG (fun h3=>om) (fun h3=>?_);cbv;refine⟨u9 om om om,iJ l,?_⟩;cbv;refine jZ rfl ?_ rfl;refine zR ?_;have e:l.getD m 0≠0:=fun e=>by (try dsimp only [zF] at *);simp_all);grind [zOI,nS,aB,iT]
 {cbv;refine zG (fun h3=>?_) (fun h3=>om);cbv;refine jZ rfl ?_ rfl;refine yW ?_;have:n=0:=om;subst this;rw[<-hn.2];simp[val,yZ,lm]}
theorem ty34:ty 32=.sli 1 4 [.int .u32 (fun _=>0)]:=by cbv
theorem s230 (l:List UInt32)(hl:l.length<2^40):zE 300 [nat l] (nat l):=by refine sF Tryz.f300 ?_;cbv;refine⟨fun b hb=>?_⟩;cbv;refine zP (fun h=>?_) (fun h=>?_);{cbv;refine jZ rfl ?_ rfl;exact yW (hb h)};{cbv;refine wE ty34 rfl rfl rfl rfl rfl (iJ l) (yD om (by simp only[sZ];(try dsimp only [zF] at *) <;> (try simp only[zH] at *) <;> omega)) rfl ?_;cbv;refine retW (.frz 7 rfl rfl ?_ ?_) rfl ?_ rfl;{cbv;exact⟨z8 (by simp),z8 (by simp),trivial⟩};{exact trivial};{refine zR ?_;simp}}
theorem s223 (l:List UInt32)(hl:l.length<2^40):zE 283 [nat l] (nat (zK (val l))):=by refine sF Tryz.f283 ?_;cbv;refine cA (cL l oM) ?_;cbv;refine cA (s230 _ (xP (zX l) hl)) ?_;cbv;refine jZ rfl ?_ rfl;exact lR
theorem p5 {l:List UInt32}(h:l≠[]):bA l=(l.getD (l.length-1) 0 != 0):=by
 have:l=l.dropLast++[l.getD (l.length-1) 0]:=by rw[uJ,<-List.getLast?_eq_getElem?,List.getLast?_eq_some_getLast h];exact (List.dropLast_concat_getLast h).symm
 grind [iT]
theorem zUJ (x:UInt32):(x != 0)=!decide ((x.toNat:Int)=0):=by rw[bQ];simp only[bne_iff_ne,ne_eq,zHF,decide_eq_false_iff_not];constructor;{intro h e;exact h (zC0.1 (by grind))};{intro h e;simp_all}
theorem s160 (l:List UInt32)(hl:l.length<2^40):zE 223 [nat l] (.bool (fun _=>bA l)):=by
 refine sF Tryz.f223 ?_;cbv;refine zQ (fun h=>?_) (fun h=>?_);{cbv;refine jZ rfl ?_ rfl;refine yN ?_;have:l=[]:=kR om;subst this;rfl}
 ·(cbv;refine⟨zD om om,xG (l.length-1) om om ?_⟩;cbv;refine jZ rfl ?_ rfl;refine vY ?_;have hne:l≠[]:=fun e=>by subst e;exact h rfl);rw[p5 hne]
  exact zUJ _
theorem s211 (x:Nat)(hx:x<B*B):zE 270 [.int .u64 (fun _=>(x:Int))] (nat (zK x)):=by
 refine sF Tryz.f270 ?_;cbv;refine⟨uF oM,?_⟩;refine yP rfl (by
  (refine⟨zR ?_,trivial⟩;have h1:ishr .u64 (x:Int) 32=((x/B:Nat):Int):=by unfold ishr;simp[IntKind.bits,B,zUC]);have h2:x/B<B:=Nat.div_lt_of_lt_mul hx;simp only[zS,wB,toD,lm,kA,zLE,zF,h1,gP,aE];grind [UInt32.toNat_ofNat',B]) (cL [UInt32.ofNat (x%B),UInt32.ofNat (x/B)] (by simp)) rfl ?_
 cbv;refine jZ rfl ?_ rfl;refine zR ?_;have h2:x/B<B:=Nat.div_lt_of_lt_mul hx;have:val [UInt32.ofNat (x%B),UInt32.ofNat (x/B)]=x:=by simp only[val,aE];rw[UInt32.toNat_ofNat',qU (show x/B<2^32 from h2),Nat.mul_zero,alT5];exact zHC x B
 rw[this]
theorem s162 (a b:List UInt32)(ha:a.length<2^40)(hb:b.length<2^40):zE 225 [nat a,nat b] (.int .i64 (fun _=>qJ (val a) (val b))):=by
 refine sF Tryz.f225 ?_;cbv;refine cA (cL a oM) ?_;cbv;refine cA (cL b oM) ?_;cbv;have ha':=xP (zX a) ha;have hb':=xP (zX b) hb;refine zG (fun h=>?_) (fun h=>?_)
 ·cbv;have hl:(zK (val a)).length=(zK (val b)).length:=om;refine⟨zD om om,?_⟩;refine z3 (σ:=Nat) (fun n=>⟨[(0,nat (zK (val a))),(1,nat (zK (val b))),(5,.int .i64 (fun _=>(n:Int)-1))],[]⟩) (fun n=>n<=(zK (val a)).length/\(zK (val a)).drop n=(zK (val b)).drop n) (fun n=>n) (zK (val a)).length ⟨zZ _,by simp[hl]⟩ (.le ?_ trivial rfl) ?_;{cbv;exact⟨lR,lR,zC (by (try dsimp only [zF] at *) <;> (grind [zH]) <;> omega),trivial⟩};intro n hn;cbv;refine zG (fun h2=>?_) (fun h2=>?_)
  ·(try dsimp only [zF] at *)
   obtain⟨m,rfl⟩:∃ m,n=m+1:=⟨n-1,by omega⟩;cbv;refine zN 9 (by cbv) ?_;cbv;refine xG m om om ?_;cbv;refine xG m om om ?_;cbv;refine zG (fun h3=>?_) (fun h3=>?_)
   ·cbv;refine⟨zD om om,m,⟨om,?_⟩,om,.le ?_ trivial rfl⟩
    ·(try dsimp only [zF] at *)
     grind [UInt32.toNat_inj,List.drop_eq_getElem_cons]
    {cbv;exact⟨lR,lR,zC om,trivial⟩}
   {cbv;refine zN 9 (by cbv) ?_;cbv;refine xG m om om ?_;cbv;refine xG m om om ?_;cbv;refine zG (fun h4=>?_) (fun h4=>?_);{cbv;refine jZ rfl ?_ rfl;refine zC ?_;have:=zTN (a:=zK (val a)) (b:=zK (val b)) (m:=m) om om hn.2 om;rw[zO,zO] at this;rw[zDH this]};{cbv;refine jZ rfl ?_ rfl;refine zC ?_;have:=zTN (a:=zK (val b)) (b:=zK (val a)) (m:=m) om om hn.2.symm om;rw[zO,zO] at this;rw[zDI this]}}
  ·(cbv;refine jZ rfl ?_ rfl;refine zC ?_;have h0:n=0:=om;subst h0;have e:zK (val a)=zK (val b):=by grind);have:val a=val b:=by grind [zO]
   rw[this,zH8]
 {cbv;refine zG (fun h2=>?_) (fun h2=>?_);{cbv;refine jZ rfl ?_ rfl;refine zC ?_;rw[zDH (o9 om)]};{cbv;refine jZ rfl ?_ rfl;refine zC ?_;rw[zDI (o9 om)]}}
theorem zS5 (l:List UInt32)(i:Nat)(x:UInt32):(lm l).set i [.int .u32 x.toNat]=lm (l.set i x):=by simp[lm,List.map_set]
theorem aY (n:Nat):ishr .u64 (n:Int) 32=((n/B:Nat):Int):=by unfold ishr;simp[IntKind.bits,B,zUC]
theorem fE (out:List UInt32){k j:Nat}(hk:k=j)(d:Nat):(lm out).set k [.int .u32 (nx .u32 ((d:Nat):Int))]=lm (out.set j (UInt32.ofNat d)):=by subst hk;rw[<-zS5,xW,gP];simp[B]
theorem s221 (a b:List UInt32)(ha:a.length<2^40)(hb:b.length<2^40):zE 308 [nat a,nat b] (nat (zK (val a+val b))):=by
 refine sF Tryz.f308 ?_;cbv;refine cA (cL a oM) ?_;cbv;refine cA (cL b oM) ?_;cbv;have ha':=xP (zX a) ha;have hb':=xP (zX b) hb;refine fX (σ:=List UInt32×List UInt32) (fun s=>⟨[(0,nat s.1),(1,nat s.2),(4,.nil)],[]⟩) (fun s=>s.2.length<=s.1.length/\s.1.length<2^40/\val s.1+val s.2=val a+val b) (fun h=>?_) (fun h=>?_) ?_;{cbv;refine⟨(zK (val b),zK (val a)),⟨om,hb',by grind [zO]⟩,.le ?_ trivial rfl⟩;cbv;exact okA};{cbv;refine⟨(zK (val a),zK (val b)),⟨om,ha',by simp only[zO]⟩,.le ?_ trivial rfl⟩;cbv;exact okA};intro s hs;obtain⟨hpq,hp,hv⟩:=hs;generalize s.1=p at *
 generalize s.2=q at *
 cbv;refine⟨zD om om,yD om om,jO om om,?_⟩;cbv;refine z3 (σ:=Nat×Nat×List UInt32) (fun s=>⟨[(0,nat p),(1,nat q),(5,.osl 23 1 (fun _=>0) (fun _=>p.length+1)),(6,.int .u64 (fun _=>(s.2.1:Int))),(24,nat p),(25,.int .i64 (fun _=>(p.length:Int))),(26,.int .i64 (fun _=>(s.1:Int)))],[(23,.arr 1 (fun _=>lm s.2.2))]⟩)
  (fun s=>s.1<=p.length/\s.2.1<2/\s.2.2.length=p.length+1/\val (s.2.2.take s.1)+B^s.1*s.2.1=val (p.take s.1)+val (q.take s.1)) (fun s=>p.length-s.1)
  (0,0,List.replicate (p.length+1) 0) ⟨om,om,by simp,by simp[val]⟩ (.le ?_ ?_ rfl) ?_
 {cbv;exact⟨lR,lR,yC rfl om,lR,lR,zC (by (try dsimp only [zF] at *) <;> (grind [zH]) <;> omega),lR,trivial⟩}
 ·(cbv;refine⟨zI ?_,trivial⟩;show List.replicate (((lm p).length:Int)+1).toNat _=_;have:(((lm p).length:Int)+1).toNat=p.length+1:=by grind [zH]);rw[this]
  simp[lm,wB,toD]
 intro s hs;obtain⟨h1,h2,h3,h4⟩:=hs;generalize s.1=i at *
 generalize s.2.1=c at *
 generalize s.2.2=out at *
 cbv;refine zG (fun h5=>?_) (fun h5=>?_)
 ·cbv;refine xG i (by (grind) <;> (try simp only[zH] at *) <;> omega) om ?_;cbv;have hpi:=yL (p.getD i 0);have hqi:=yL (q.getD i 0);simp only[B] at hpi hqi;refine fX (σ:=Unit) (fun _=>⟨[(0,nat p),(1,nat q),(5,.osl 23 1 (fun _=>0) (fun _=>p.length+1)),(6,.int .u64 (fun _=>((c+(p.getD i 0).toNat+(q.getD i 0).toNat:Nat):Int))),(7,.int .i64 (fun _=>(i:Int))),(24,nat p),(25,.int .i64 (fun _=>(p.length:Int))),(26,.int .i64 (fun _=>(i:Int)))],[(23,.arr 1 (fun _=>lm out))]⟩) (fun _=>True) (fun h6=>?_) (fun h6=>?_) ?_
  ·cbv;refine xG i (by (grind) <;> (try simp only[zH] at *) <;> omega) om ?_;cbv;refine⟨(),trivial,.le ?_ ?_ rfl⟩
   ·cbv;refine⟨lR,lR,lR,zC ?_,lR,lR,lR,lR,trivial⟩
    (try dsimp only [zF] at *)
    grind [uM]
   {cbv;exact⟨zI rfl,trivial⟩}
  ·cbv;refine⟨(),trivial,.le ?_ ?_ rfl⟩
   ·cbv;refine⟨lR,lR,lR,zC ?_,lR,lR,lR,lR,trivial⟩;have:(q.getD i 0).toNat=0:=by have:q.length<=i:=om;simp_all
    (try dsimp only [zF] at *)
    grind [uM]
   {cbv;exact⟨zI rfl,trivial⟩}
  intro _ _;generalize hd:c+(p.getD i 0).toNat+(q.getD i 0).toNat=d;cbv;refine⟨y9 om om,j8 i (by simp) om ?_⟩;cbv;refine⟨uF oM,zD om om,(i+1,d/B,out.set i (UInt32.ofNat d)),⟨om,?_,by grind,?_⟩,om,.le ?_ ?_ rfl⟩;{grind [B]}
  ·(show val ((out.set i (UInt32.ofNat d)).take (i+1))+B^(i+1)*(d/B)=val (p.take (i+1))+val (q.take (i+1));rw[u7 _ om,zW p,zW q,xW];have e1:B^i*(d%B)+B^(i+1)*(d/B)=B^i*d:=by rw[uG,jX,<-qH,zHC]);grind
  {cbv;refine⟨lR,lR,lR,zC (aY d),lR,lR,zC om,trivial⟩};{cbv;exact⟨zI (fE out (by simp) d),trivial⟩}
 {cbv;refine⟨y9 om om,j8 p.length (by simp[zH]) om ?_⟩;cbv;have hi:i=p.length:=om;subst hi;refine kQ (.trans (.le (ps':=⟨[(60,.osl 23 1 (fun _=>0) (fun _=>p.length+1))],[(23,.arr 1 (fun _=>lm (out.set p.length (UInt32.ofNat c))))]⟩) ?_ ?_ rfl) (.frz 23 rfl rfl ?_ ?_)) rfl (by refine⟨zR ?_,trivial⟩;grind [zH]) (cL (out.set p.length (UInt32.ofNat c)) (by grind)) rfl ?_;{cbv;exact okA};{cbv;exact⟨zI (fE out (by simp[zH]) c),trivial⟩};{cbv;exact⟨z8 (by grind [zH]),trivial⟩};{exact trivial};cbv;refine jZ rfl ?_ rfl;refine zR ?_;congr 2;have e:=u7 out (n:=p.length) oM (UInt32.ofNat c);rw[yS (by grind),xW,qU (show c<B by grind [B]),h4,yS (zZ _),yS hpq] at e;omega}
theorem fD (out:List UInt32){k j:Nat}(hk:k=j){z:Int}{w:Nat}(hz:z=(w:Int))(hw:w<B):(lm out).set k [.int .u32 z]=lm (out.set j (UInt32.ofNat w)):=by subst hk hz;rw[<-zS5,xW,qU hw]
theorem zTA (z:Int):ishr .u64 z 63=z/9223372036854775808:=by unfold ishr;simp[IntKind.bits,zUC]
theorem s222 (a b:List UInt32)(ha:a.length<2^40)(hb:b.length<2^40):zE 309 [nat a,nat b] (.tup [nat (zK (val a-val b)),.int .i64 (fun _=>if val b<=val a then 0 else 2)]):=by
 refine sF Tryz.f309 ?_;cbv;refine cA (cL a oM) ?_;cbv;refine cA (cL b oM) ?_;cbv;have ha':=xP (zX a) ha;have hb':=xP (zX b) hb;refine cA (s162 _ _ ha' hb') ?_;cbv;simp only[zO];refine zG (fun h=>?_) (fun h=>?_)
 ·(have h':val a<val b:=by grind [zH8,zDI]);cbv
  refine jZ rfl ?_ rfl;refine⟨yW ?_,zC ?_,trivial⟩;{rw[Nat.sub_eq_zero_of_le oM,yZ];rfl};omega
 have hle:val b<=val a:=by grind [zDH]
 have hv:val (zK (val a))=val a:=zO _;have hv2:val (zK (val b))=val b:=zO _;have hpq:(zK (val b)).length<=(zK (val a)).length:=by rcases uQ (zK (val a)).length (zK (val b)).length with h1|h1;{have:=o9 h1;omega};omega
 generalize zK (val a)=p at *
 generalize zK (val b)=q at *
 cbv;refine⟨yD om om,jO om om,?_⟩;cbv;refine z3 (σ:=Nat×Nat×List UInt32) (fun s=>⟨[(0,nat p),(1,nat q),(6,.osl 21 1 (fun _=>0) (fun _=>p.length)),(7,.int .u64 (fun _=>(s.2.1:Int))),(22,nat p),(23,.int .i64 (fun _=>(p.length:Int))),(24,.int .i64 (fun _=>(s.1:Int)))],[(21,.arr 1 (fun _=>lm s.2.2))]⟩)
  (fun s=>s.1<=p.length/\s.2.1<2/\s.2.2.length=p.length/\val (s.2.2.take s.1)+val (q.take s.1)=val (p.take s.1)+B^s.1*s.2.1) (fun s=>p.length-s.1)
  (0,0,List.replicate p.length 0) ⟨om,om,by simp,by simp[val]⟩ (.le ?_ ?_ rfl) ?_
 {cbv;exact⟨lR,lR,yC rfl om,lR,lR,zC (by (try dsimp only [zF] at *) <;> (grind [zH]) <;> omega),lR,trivial⟩}
 ·(cbv;refine⟨zI ?_,trivial⟩;show List.replicate (((lm p).length:Int)).toNat _=_;have:(((lm p).length:Int)).toNat=p.length:=by grind [zH]);rw[this]
  simp[lm,wB,toD]
 intro s hs;obtain⟨h1,h2,h3,h4⟩:=hs;generalize s.1=i at *
 generalize s.2.1=c at *
 generalize s.2.2=out at *
 cbv;refine zG (fun h5=>?_) (fun h5=>?_)
 ·cbv;refine xG i (by (grind) <;> (try simp only[zH] at *) <;> omega) om ?_;cbv;have hpi:=yL (p.getD i 0);have hqi:=yL (q.getD i 0);simp only[B] at hpi hqi;refine fX (σ:=Unit) (fun _=>⟨[(0,nat p),(1,nat q),(6,.osl 21 1 (fun _=>0) (fun _=>p.length)),(10,.int .u64 (fun _=>nx .u64 (((p.getD i 0).toNat:Int)-(c:Int)-((q.getD i 0).toNat:Int)))),(8,.int .i64 (fun _=>(i:Int))),(22,nat p),(23,.int .i64 (fun _=>(p.length:Int))),(24,.int .i64 (fun _=>(i:Int)))],[(21,.arr 1 (fun _=>lm out))]⟩) (fun _=>True) (fun h6=>?_) (fun h6=>?_) ?_
  ·cbv;refine xG i (by (grind) <;> (try simp only[zH] at *) <;> omega) om ?_;cbv;refine⟨(),trivial,.le ?_ ?_ rfl⟩
   ·cbv;refine⟨lR,lR,lR,zC ?_,lR,lR,lR,lR,trivial⟩
    (try dsimp only [zF] at *)
    grind [uM]
   {cbv;exact⟨zI rfl,trivial⟩}
  ·cbv;refine⟨(),trivial,.le ?_ ?_ rfl⟩
   ·cbv;refine⟨lR,lR,lR,zC ?_,lR,lR,lR,lR,trivial⟩;have:(q.getD i 0).toNat=0:=by have:q.length<=i:=om;simp_all
    (try dsimp only [zF] at *)
    grind [uM]
   {cbv;exact⟨zI rfl,trivial⟩}
  intro _ _;obtain⟨w,c',hw,hc',he⟩:∃ w c':Nat,w<B/\c'<2/\(p.getD i 0).toNat+B*c'=w+c+(q.getD i 0).toNat:=by simp only[B];by_cases hlt:(p.getD i 0).toNat<c+(q.getD i 0).toNat;{exact⟨(p.getD i 0).toNat+4294967296-c-(q.getD i 0).toNat,1,by omega,by omega,by omega⟩};{exact⟨(p.getD i 0).toNat-c-(q.getD i 0).toNat,0,by omega,by omega,by omega⟩}
  (have hz:nx .u64 (((p.getD i 0).toNat:Int)-(c:Int)-((q.getD i 0).toNat:Int))=if c'=0 then (w:Int) else (w:Int)+18446744069414584320:=by grind [uM,B]);simp only[hz]
  cbv;refine⟨y9 om om,j8 i (by simp) om ?_⟩;cbv;refine⟨uF oM,zD om om,(i+1,c',out.set i (UInt32.ofNat w)),⟨om,hc',by grind,?_⟩,om,.le ?_ ?_ rfl⟩;{show val ((out.set i (UInt32.ofNat w)).take (i+1))+val (q.take (i+1))=val (p.take (i+1))+B^(i+1)*c';rw[u7 _ om,zW p,zW q,xW,qU hw];grind};{cbv;refine⟨lR,lR,lR,zC ?_,lR,lR,zC om,trivial⟩;grind [zTA,B]};{cbv;refine⟨zI (fD out (by simp) ?_ hw),trivial⟩;grind [gP,B]}
 ·(cbv;have hi:i=p.length:=om;subst hi;refine kQ (.trans (.le (ps':=⟨[(52,.osl 21 1 (fun _=>0) (fun _=>p.length))],[(21,.arr 1 (fun _=>lm out))]⟩) ?_ ?_ rfl) (.frz 21 rfl rfl ?_ ?_)) rfl (by refine⟨zR ?_,trivial⟩;grind [zH]) (cL out oM) rfl ?_;{cbv;exact okA};{cbv;exact⟨zI rfl,trivial⟩};{cbv;exact⟨z8 (by grind [zH]),trivial⟩};{exact trivial};cbv;refine jZ rfl ?_ rfl;rw[yS oM,yS hpq,yS (zZ _)] at h4;have hlo:=xZ out;have hlq:=xZ q;have hc0:c=0:=by grind);subst hc0;refine⟨zR ?_,zC ?_,trivial⟩
  all_goals grind
theorem x5 {n:Nat}(h:n<18446744073709551616):nx .u64 (n:Int)=(n:Int):=by grind [uM]
theorem s194 (a b:List UInt32)(ha:a.length<2^40)(hb:b.length<2^40):zE 288 [nat a,nat b] (nat (zK (val a*val b))):=by
 refine sF Tryz.f288 ?_;cbv;refine cA (cL a oM) ?_;cbv;refine cA (cL b oM) ?_;cbv;have ha':=xP (zX a) ha;have hb':=xP (zX b) hb;have hv:val (zK (val a))=val a:=zO _;have hv2:val (zK (val b))=val b:=zO _;generalize zK (val a)=p at *
 generalize zK (val b)=q at *
 
 refine zQ (fun h=>?_) (fun h=>?_);{cbv;refine jZ rfl ?_ rfl;refine yW ?_;have:p=[]:=kR om;subst this;rw[<-hv];simp[val,yZ,lm]};cbv;refine zG (fun h'=>?_) (fun h'=>?_);{cbv;refine jZ rfl ?_ rfl;refine yW ?_;have:q=[]:=kR om;subst this;rw[<-hv2];simp[val,yZ,lm]};cbv;refine⟨zD om om,yD om om,jO om om,?_⟩;cbv;refine z3 (σ:=Nat×List UInt32) (fun s=>⟨[(0,nat p),(1,nat q),(5,.osl 28 1 (fun _=>0) (fun _=>p.length+q.length)),(29,nat p),(30,.int .i64 (fun _=>(p.length:Int))),(31,.int .i64 (fun _=>(s.1:Int)))],[(28,.arr 1 (fun _=>lm s.2))]⟩)
  (fun s=>s.1<=p.length/\s.2.length=p.length+q.length/\val s.2=val (p.take s.1)*val q/\∀ j,s.1+q.length<=j->s.2.getD j 0=0) (fun s=>p.length-s.1)
  (0,List.replicate (p.length+q.length) 0) ⟨om,by simp,by simp[val,gV],fun j _=>by grind⟩ (.le ?_ ?_ rfl) ?_
 {cbv;exact⟨lR,lR,yC rfl om,lR,zC (by (try dsimp only [zF] at *) <;> (grind [zH]) <;> omega),lR,trivial⟩}
 ·(cbv;refine⟨zI ?_,trivial⟩;show List.replicate (((lm p).length:Int)+((lm q).length:Int)).toNat _=_;have:(((lm p).length:Int)+((lm q).length:Int)).toNat=p.length+q.length:=by grind [zH]);rw[this]
  simp[lm,wB,toD]
 intro s hs;obtain⟨h1,h2,h3,h4⟩:=hs;generalize s.1=i at *
 generalize s.2=out at *
 cbv;refine zG (fun h5=>?_) (fun h5=>?_)
 ·cbv;refine xG i (by (grind) <;> (try simp only[zH] at *) <;> omega) om ?_;cbv;have hx:=yL (p.getD i 0);generalize hpx:(p.getD i 0).toNat=x at *
  refine z3 (σ:=Nat×Nat×List UInt32) (fun s=>⟨[(0,nat p),(1,nat q),(5,.osl 28 1 (fun _=>0) (fun _=>p.length+q.length)),(29,nat p),(30,.int .i64 (fun _=>(p.length:Int))),(31,.int .i64 (fun _=>(i:Int))),(6,.int .i64 (fun _=>(i:Int))),(7,.int .u32 (fun _=>(x:Int))),(8,.int .u64 (fun _=>(s.2.1:Int))),(36,nat q),(37,.int .i64 (fun _=>(q.length:Int))),(38,.int .i64 (fun _=>(s.1:Int)))],[(28,.arr 1 (fun _=>lm s.2.2))]⟩)
   (fun s=>s.1<=q.length/\s.2.1<B/\s.2.2.length=p.length+q.length/\val s.2.2+B^(i+s.1)*s.2.1=val (p.take i)*val q+B^i*(x*val (q.take s.1))/\∀ j,i+q.length<=j->s.2.2.getD j 0=0) (fun s=>q.length-s.1)
   (0,0,out) ⟨om,w5,h2,by simp[val,h3],h4⟩ (.le ?_ ?_ rfl) ?_
  {cbv;exact⟨lR,lR,lR,lR,lR,lR,lR,lR,lR,lR,zC (by (try dsimp only [zF] at *) <;> (grind [zH]) <;> omega),lR,trivial⟩};{cbv;exact⟨zI rfl,trivial⟩};intro s hs;obtain⟨g1,g2,g3,g4,g5⟩:=hs;generalize s.1=k at *
  generalize s.2.1=c at *
  generalize s.2.2=out' at *
  cbv;refine zG (fun h6=>?_) (fun h6=>?_)
  ·(cbv;refine xG k (by (grind) <;> (try simp only[zH] at *) <;> omega) om ?_;cbv;have hik:0+((i:Int)+(k:Int)).toNat=i+k:=by omega);refine⟨zD om om,y9 om om,j8 (i+k) hik om ?_⟩
   cbv;refine⟨zD om om,y9 om om,j8 (i+k) hik om ?_⟩;cbv;have hy:=yL (q.getD k 0);have ho:=yL (out'.getD (i+k) 0);have hset:=sN out' (j:=i+k) om (UInt32.ofNat (c+(x*(q.getD k 0).toNat+(out'.getD (i+k) 0).toNat)));have htk:=zW q k;generalize hqy:(q.getD k 0).toNat=y at *
   generalize hoo:(out'.getD (i+k) 0).toNat=o at *
   (have hm:x*y<=4294967295*4294967295:=Nat.mul_le_mul (by grind [B]) (by grind [B]);have hB:B=4294967296:=rfl;have hT:nx .u64 ((c:Int)+nx .u64 (nx .u64 (nx .u64 (x:Int)*nx .u64 (y:Int))+nx .u64 (o:Int)))=((c+(x*y+o):Nat):Int):=by rw[x5 (n:=x) oM,x5 (n:=y) oM,x5 (n:=o) oM,<-Int.natCast_mul,x5 (n:=x*y) oM,<-Int.natCast_add,x5 (n:=x*y+o) oM,<-Int.natCast_add,x5 oM]);refine⟨uF oM,zD om om,(k+1,(c+(x*y+o))/B,out'.set (i+k) (UInt32.ofNat (c+(x*y+o)))),⟨om,?_,by grind,?_,?_⟩,om,.le ?_ ?_ rfl⟩
   {grind}
   ·show val (out'.set (i+k) (UInt32.ofNat (c+(x*y+o))))+B^(i+(k+1))*((c+(x*y+o))/B)=val (p.take i)*val q+B^i*(x*val (q.take (k+1)));rw[htk];rw[xW] at hset;have e0:∀ t,B^(i+k)*(t%B)+B^(i+(k+1))*(t/B)=B^(i+k)*t:=by
     (intro t;have:i+(k+1)=(i+k)+1:=by omega);rw[this,uG,jX,<-qH,zHC]
    grind
   {intro j hj;show (out'.set (i+k) _).getD j 0=0;rw[pS _ _ _ _ om];grind};{cbv;refine⟨lR,lR,lR,lR,lR,lR,lR,lR,zC ?_,lR,lR,zC om,trivial⟩;exact (congrArg (fun z=>ishr .u64 z 32) hT).trans (aY _)};{cbv;refine⟨zI ?_,trivial⟩;exact (congrArg (fun z=>(lm out').set (0+((i:Int)+(k:Int)).toNat) [.int .u32 (nx .u32 z)]) hT).trans (fE out' hik _)}
  ·(cbv;have hkq:k=q.length:=om;subst hkq;have hlq:0+((i:Int)+((lm q).length:Int)).toNat=i+q.length:=by grind [zH]);refine⟨zD om om,y9 om om,j8 (i+q.length) hlq om ?_⟩
   cbv;refine⟨zD om om,(i+1,out'.set (i+q.length) (UInt32.ofNat c)),⟨om,by grind,?_,?_⟩,om,.le ?_ ?_ rfl⟩;{show val (out'.set (i+q.length) (UInt32.ofNat c))=val (p.take (i+1))*val q;have hset:=sN out' (j:=i+q.length) om (UInt32.ofNat c);rw[g5 _ (zZ _),xW,qU g2] at hset;rw[yS (zZ _)] at g4;rw[zW p,hpx,gF,jX];grind};{grind [pS]};{cbv;exact⟨lR,lR,lR,lR,lR,zC om,trivial⟩};{cbv;exact⟨zI (fE out' hlq c),trivial⟩}
 {cbv;have hip:i=p.length:=om;subst hip;refine kQ (.trans (.le (ps':=⟨[(77,.osl 28 1 (fun _=>0) (fun _=>p.length+q.length))],[(28,.arr 1 (fun _=>lm out))]⟩) ?_ ?_ rfl) (.frz 28 rfl rfl ?_ ?_)) rfl (by refine⟨zR ?_,trivial⟩;grind [zH]) (cL out oM) rfl ?_;{cbv;exact okA};{cbv;exact⟨zI rfl,trivial⟩};{cbv;exact⟨z8 (by grind [zH]),trivial⟩};{exact trivial};cbv;refine jZ rfl ?_ rfl;rw[yS (zZ _)] at h3;refine zR ?_;grind}
end Go.Proofs.YtaeaffgjdcigoaaGreat
namespace Go.Proofs.YtaeaffgjdcigoaaGreat
def pad (n m:Nat):List UInt32:=zK n++List.replicate (m-(zK n).length) 0
theorem zM5 {l:List UInt32}{n m:Nat}(hl:l.length=m)(hv:val l=n):l=pad n m:=by
 have h1:(zK n).length<=m:=by rw[<-hv,<-hl];exact zX l
 refine zC4 ?_ ?_
 all_goals grind [pad,vM,gV,zO]
theorem aW {n m:Nat}(h:n<B^m):(pad n m).length=m:=by have:=yF h;grind [pad]
theorem i9 (n m:Nat):val (pad n m)=n:=by grind [pad,vM,gV,zO]
theorem zQT {l:List UInt32}{n:Nat}(hl:l.length=n+2):val l=val (l.take n)+B^n*((l.getD (n+1) 0).toNat*B+(l.getD n 0).toNat):=by have h1:=zW l n;have h2:=zW l (n+1);rw[List.take_of_length_le (by omega)] at h2;rw[h2,h1,Nat.pow_succ,Nat.mul_add,Nat.mul_assoc,Nat.mul_comm B];omega
theorem zQS {l:List UInt32}{n:Nat}(hl:l.length=n+3):val l=val (l.take n)+B^n*(((l.getD (n+2) 0).toNat*B+(l.getD (n+1) 0).toNat)*B+(l.getD n 0).toNat):=by
 have h1:=zW l n;have h2:=zW l (n+1);have h3:=zW l (n+2);rw[List.take_of_length_le (by omega)] at h3;rw[h3,h2,h1];have e:B^(n+2)=B^n*(B*B):=by grind
 rw[e,Nat.pow_succ,Nat.mul_add,Nat.add_mul,Nat.mul_add,Nat.mul_assoc,Nat.mul_assoc];grind
structure EstInv (U V P top v1 v2 u2:Nat) (q r:Nat):Prop where
 top:q*v1+r=top
 lo:U<(q+1)*V
theorem zR1 {U V P top v1 v2 u2 ur vr:Nat}(hv1:0<v1)(hU:U=ur+P*(top*B+u2))(hV:V=vr+P*(v1*B+v2))(hur:ur<P)(hu2:u2<B):EstInv U V P top v1 v2 u2 (top/v1) (top%v1):=by
 refine⟨by rw[Nat.mul_comm];exact Nat.div_add_mod top v1,?_⟩;have h1:top+1<=(top/v1+1)*v1:=by have:=Nat.div_add_mod top v1;have:=Nat.mod_lt top hv1;grind
 have h2:(top+1)*B<=(top/v1+1)*(v1*B+v2):=by rw[Nat.mul_add,<-Nat.mul_assoc];exact Nat.le_trans (Nat.mul_le_mul_right B h1) (Nat.le_add_right _ _)
 have h3:top*B+u2+1<=(top+1)*B:=by grind
 have h4:=Nat.mul_le_mul_left P (Nat.le_trans h3 h2);have h5:(top/v1+1)*V=(top/v1+1)*vr+P*((top/v1+1)*(v1*B+v2)):=by grind
 have h6:P*(top*B+u2+1)=P*(top*B+u2)+P:=by grind
 omega
theorem zR0 {U V P top v1 v2 u2 ur vr q r:Nat}(hU:U=ur+P*(top*B+u2))(hV:V=vr+P*(v1*B+v2))(hur:ur<P) (ht:q*v1+r=top) (h:r*B+u2<q*v2):U<q*V:=by
 have h1:top*B+u2+1<=q*(v1*B+v2):=by rw[<-ht,Nat.mul_add,Nat.add_mul,Nat.mul_assoc];omega
 have h2:=Nat.mul_le_mul_left P h1;have h3:q*V=q*vr+P*(q*(v1*B+v2)):=by grind
 have h4:P*(top*B+u2+1)=P*(top*B+u2)+P:=by grind
 omega
theorem zRZ {U V P top v1 v2 u2 q r:Nat}(hq:0<q)(ht:q*v1+r=top)(h:U<q*V):EstInv U V P top v1 v2 u2 (q-1) (r+v1):=by obtain⟨k,rfl⟩:∃ k,q=k+1:=⟨q-1,by omega⟩;refine⟨?_,by grind⟩;grind
theorem zGK {U V P top v1 v2 u2 ur vr q r:Nat}(hv1:0<v1)(hU:U=ur+P*(top*B+u2))(hV:V=vr+P*(v1*B+v2))(hvr:vr<P) (ht:q*v1+r=top) (hq:q<=B) (h:q*v2<=r*B+u2):q*V<=U+V:=by
 have h1:q*(v1*B+v2)<=top*B+u2:=by rw[<-ht,Nat.mul_add,Nat.add_mul,Nat.mul_assoc];omega
 have h2:=Nat.mul_le_mul_left P h1;have h3:q*V=q*vr+P*(q*(v1*B+v2)):=by grind
 have h4:q*vr<=B*P:=Nat.mul_le_mul hq (Nat.le_of_lt hvr);have h5:B*P<=P*(v1*B+v2):=by rw[Nat.mul_comm B P];refine Nat.mul_le_mul_left P (Nat.le_trans (?_:B<=v1*B) (Nat.le_add_right _ _));exact Nat.le_mul_of_pos_left B hv1
 omega
def lG (v1 v2 u2 q r:Nat):Nat :=
 if h:B<=r\/v1=0 then q
 else if B<=q\/r*B+u2<q*v2 then (if B<=r+v1 then q-1 else lG v1 v2 u2 (q-1) (r+v1)) else q
termination_by B-r
decreasing_by omega
structure Est (U V q:Nat):Prop where
 b:q<B
 lo:U<(q+1)*V
 hi:q*V<=U+V
theorem zKM {U V P top v1 v2 u2 ur vr:Nat}(hv1:0<v1)(hv2:v2<B)(hu2:u2<B)(hU:U=ur+P*(top*B+u2))(hV:V=vr+P*(v1*B+v2))(hur:ur<P)(hvr:vr<P)(hlt:U<B*V)(htop:top<v1*B+B):∀ n q r,B-r<=n->EstInv U V P top v1 v2 u2 q r->r<B->q<=B+1->Est U V (lG v1 v2 u2 q r)
 |0,q,r,hn,hi,hr,hq=>by omega| n+1,q,r,hn,hi,hr,hq=>by
  rw[lG];rw[dif_neg (by omega)];by_cases hc:B<=q\/r*B+u2<q*v2
  ·(rw[if_pos hc];have hq0:0<q:=by grind);have hover:U<q*V:=by rcases hc with h|h;{exact Nat.lt_of_lt_of_le hlt (Nat.mul_le_mul_right V h)};{exact zR0 hU hV hur hi.top h}
   have hst:=zRZ (P:=P) (v2:=v2) (u2:=u2) hq0 hi.top hover;by_cases h2:B<=r+v1
   ·(rw[if_pos h2];have hqB:q-1<B:=by rcases Nat.lt_or_ge (q-1) B with h|h;{exact h};{have h3:=hst.top;have h4:=Nat.mul_le_mul_right v1 h;rw[Nat.mul_comm B v1] at h4;omega});refine⟨hqB,hst.lo,zGK (r:=r+v1) (v2:=v2) (u2:=u2) hv1 hU hV hvr hst.top (Nat.le_of_lt hqB) ?_⟩;have h5:(q-1)*v2<=B*B:=Nat.mul_le_mul (Nat.le_of_lt hqB) (Nat.le_of_lt hv2);grind [B]
   {rw[if_neg h2];exact zKM hv1 hv2 hu2 hU hV hur hvr hlt htop n _ _ (by omega) hst (by omega) (by omega)}
  ·(rw[if_neg hc];have h1:q<B:=by omega);exact⟨h1,hi.lo,zGK hv1 hU hV hvr hi.top (Nat.le_of_lt h1) (by omega)⟩
def zE4 (U V q:Nat):Nat:=if q*V<=U then q else q-1
theorem zR5 {U V q:Nat}(hV:0<V)(h:Est U V q):zE4 U V q=U/V:=by
 unfold zE4;split;{rename_i h1;exact (Nat.div_eq_of_lt_le h1 h.lo).symm}
 ·(rename_i h1;have h1:U<q*V:=by omega);have hq:q≠0:=fun e=>by grind
  obtain⟨k,rfl⟩:∃ k,q=k+1:=⟨q-1,by omega⟩;have h2:=h.hi;rw[Nat.add_mul,Nat.one_mul] at h2;grind [Nat.div_eq_of_lt_le]
theorem eE {l:List UInt32}(n:Nat)(h:n<=l.length):val l=val (l.take n)+B^n*val (l.drop n):=by
 have e:(l.take n).length=n:=by grind
 calc val l=val (l.take n++l.drop n):=by simp_all
  _=_:=by rw[vM,e]
theorem kT {l:List UInt32}{i:Nat}(h:i<l.length):val (l.drop i)=(l.getD i 0).toNat+B*val (l.drop (i+1)):=by
 have:l.drop i=l.getD i 0::l.drop (i+1):=by simp_all
 rw[this];rfl
theorem zBI {l:List UInt32}(n:Nat)(hn:n<=l.length)(h:val l<B^n):val (l.drop n)=0:=by have h1:=eE n hn;rcases Nat.eq_zero_or_pos (val (l.drop n)) with h2|h2;{exact h2};{have:=Nat.mul_le_mul_left (B^n) h2;omega}
theorem zP4 {pre x post:List UInt32}{V n q:Nat}(hx:x.length=n+1)(hpost:val post=0)(hV:val x<V*B)(hVn:V<B^n)(h0:0<V)(hq:q=val x/V):q<B/\val (pad (val x-q*V) (n+1)++post)<V /\ val (pre++(pad (val x-q*V) (n+1)++post))+V*(B^pre.length*q)=val (pre++(x++post)):=by
 have hmod:val x-q*V=val x%V:=by grind [Nat.div_add_mod]
 have hlt:=Nat.mod_lt (val x) h0;refine⟨by rw[hq,Nat.div_lt_iff_lt_mul h0,Nat.mul_comm];exact hV,?_,?_⟩;{grind [vM,i9]};{rw[vM,vM,vM,vM,i9,hpost,hmod];simp only[Nat.mul_zero,Nat.add_zero];grind [Nat.div_add_mod]}
end Go.Proofs.YtaeaffgjdcigoaaGreat
