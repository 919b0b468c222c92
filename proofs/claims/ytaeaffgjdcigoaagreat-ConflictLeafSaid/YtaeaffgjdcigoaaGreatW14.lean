/- A part of the proof: NtA, NtB, NtC, NtD, PnB. -/
import Derived.Test.YtaeaffgjdcigoaaGreatW13
set_option linter.all false
namespace Go.Proofs.YtaeaffgjdcigoaaGreat
open Go
set_option maxRecDepth 100000
theorem aL (l:List UInt32)(hl:l.length<2^44):zC 265 [nat l] (nat (zJ (val l))):=by
 refine sF Tryz.f265 ?_;cbv;refine z7 (σ:=Nat) (λn=>⟨[(0,nat l),(2,.nil),(3,iV n)],[]⟩) (λn=>n<=l.length/\val (l.take n)=val l) (λn=>n) l.length ⟨yD _,by simp⟩ (.le ?_ trivial rfl) ?_;{cbv;exact⟨lR,lR,zB (by simp[zH]),trivial⟩};intro n hn;cbv;refine zQ (λh=>?_) (λh=>?_)
 ·(try dsimp only [zV] at *)
  obtain⟨m,rfl⟩:∃ m,n=m+1:=⟨n-1,by omega⟩;cbv;refine⟨zD om om,xJ m om om ?_⟩;cbv;refine zF (λh2=>?_) (λh2=>?_)
  ·cbv;refine⟨zD om om,m,⟨om,?_⟩,om,.le ?_ trivial rfl⟩
   ·(have e:l.getD m 0=0:=by have:(l.getD m 0).toNat=0:=om;exact Zt.1 this);grind [aY,Vy]
   {cbv;exact⟨lR,lR,zB om,trivial⟩}
  ·(cbv;refine zF (λh3=>om) (λh3=>?_);cbv;refine⟨vF om om om,iY l,?_⟩;cbv;refine gJ rfl ?_ rfl;refine zR ?_;have e:l.getD m 0≠0:=λe=>by (try dsimp only [zV] at *);simp_all);grind [GP,lD,aY,eE]
 {cbv;refine zF (λh3=>?_) (λh3=>om);cbv;refine gJ rfl ?_ rfl;refine yM ?_;have:n=0:=om;subst this;rw[<-hn.2];simp[val,y6,lm]}
theorem P6:ty 32=.sli 1 4 [.int .u32 (λ_=>0)]:=by cbv
theorem Es (l:List UInt32)(hl:l.length<2^40):zC 300 [nat l] (nat l):=by refine sF Tryz.f300 ?_;cbv;refine⟨λb hb=>?_⟩;cbv;refine zO (λh=>?_) (λh=>?_);{cbv;refine gJ rfl ?_ rfl;exact yM (hb h)};{cbv;refine wM P6 rfl rfl rfl rfl rfl (iY l) (z8 om (by simp only[dO];(try dsimp only [zV] at *) <;> (try simp only[zH] at *) <;> omega)) rfl ?_;cbv;refine TK (.frz 7 rfl rfl ?_ ?_) rfl ?_ rfl;{cbv;exact⟨zZ (by simp),zZ (by simp),trivial⟩};{exact trivial};{refine zR ?_;simp}}
theorem D9 (l:List UInt32)(hl:l.length<2^40):zC 283 [nat l] (nat (zJ (val l))):=by refine sF Tryz.f283 ?_;cbv;refine cA (aL l oM) ?_;cbv;refine cA (Es _ (xP (z5 l) hl)) ?_;cbv;refine gJ rfl ?_ rfl;exact lR
theorem tT {l:List UInt32}(h:l≠[]):bL l=(l.getD (l.length-1) 0 != 0):=by
 have:l=l.dropLast++[l.getD (l.length-1) 0]:=by rw[gE,<-List.getLast?_eq_getElem?,List.getLast?_eq_some_getLast h];exact (List.dropLast_concat_getLast h).symm
 grind [eE]
theorem AJ (x:UInt32):(x != 0)=!decide ((x.toNat:Int)=0):=by rw[r8];simp only[bne_iff_ne,ne_eq,YF,decide_eq_false_iff_not];constructor;{intro h e;exact h (Zt.1 (by grind))};{intro h e;simp_all}
theorem EC (l:List UInt32)(hl:l.length<2^40):zC 223 [nat l] (zL (bL l)):=by
 refine sF Tryz.f223 ?_;cbv;refine zQ (λh=>?_) (λh=>?_);{cbv;refine gJ rfl ?_ rfl;refine yV ?_;have:l=[]:=kD om;subst this;rfl}
 ·(cbv;refine⟨zD om om,xJ (l.length-1) om om ?_⟩;cbv;refine gJ rfl ?_ rfl;refine yY ?_;have hne:l≠[]:=λe=>by subst e;exact h rfl);rw[tT hne]
  exact AJ _
theorem Su (x:Nat)(hx:x<B*B):zC 270 [.int .u64 (λ_=>(x:Int))] (nat (zJ x)):=by
 refine sF Tryz.f270 ?_;cbv;refine⟨uH oM,?_⟩;refine yJ rfl (by
  (refine⟨zR ?_,trivial⟩;have h1:ishr .u64 (x:Int) 32=((x/B:Nat):Int):=by unfold ishr;simp[IntKind.bits,B,As]);have h2:x/B<B:=Nat.div_lt_of_lt_mul hx;simp only[zW,xT,toD,lm,jH,W0,zV,h1,gZ,sA];grind [UInt32.toNat_ofNat',B]) (aL [UInt32.ofNat (x%B),UInt32.ofNat (x/B)] (by simp)) rfl ?_
 cbv;refine gJ rfl ?_ rfl;refine zR ?_;have h2:x/B<B:=Nat.div_lt_of_lt_mul hx;have:val [UInt32.ofNat (x%B),UInt32.ofNat (x/B)]=x:=by simp only[val,sA];rw[UInt32.toNat_ofNat',kE (show x/B<2^32 from h2),Nat.mul_zero,Vw];exact WZ x B
 rw[this]
theorem Hb (a b:List UInt32)(ha:a.length<2^40)(hb:b.length<2^40):zC 225 [nat a,nat b] (iV (qT (val a) (val b))):=by
 refine sF Tryz.f225 ?_;cbv;refine cA (aL a oM) ?_;cbv;refine cA (aL b oM) ?_;cbv;have ha':=xP (z5 a) ha;have hb':=xP (z5 b) hb;refine zF (λh=>?_) (λh=>?_)
 ·cbv;have hl:(zJ (val a)).length=(zJ (val b)).length:=om;refine⟨zD om om,?_⟩;refine z7 (σ:=Nat) (λn=>⟨[(0,nat (zJ (val a))),(1,nat (zJ (val b))),(5,iV ((n:Int)-1))],[]⟩) (λn=>n<=(zJ (val a)).length/\(zJ (val a)).drop n=(zJ (val b)).drop n) (λn=>n) (zJ (val a)).length ⟨yD _,by simp[hl]⟩ (.le ?_ trivial rfl) ?_;{cbv;exact⟨lR,lR,zB (by (try dsimp only [zV] at *) <;> (grind [zH]) <;> omega),trivial⟩};intro n hn;cbv;refine zF (λh2=>?_) (λh2=>?_)
  ·(try dsimp only [zV] at *)
   obtain⟨m,rfl⟩:∃ m,n=m+1:=⟨n-1,by omega⟩;cbv;refine zM 9 (by cbv) ?_;cbv;refine xJ m om om ?_;cbv;refine xJ m om om ?_;cbv;refine zF (λh3=>?_) (λh3=>?_)
   ·cbv;refine⟨zD om om,m,⟨om,?_⟩,om,.le ?_ trivial rfl⟩
    ·(try dsimp only [zV] at *)
     grind [UInt32.toNat_inj,List.drop_eq_getElem_cons]
    {cbv;exact⟨lR,lR,zB om,trivial⟩}
   {cbv;refine zM 9 (by cbv) ?_;cbv;refine xJ m om om ?_;cbv;refine xJ m om om ?_;cbv;refine zF (λh4=>?_) (λh4=>?_);{cbv;refine gJ rfl ?_ rfl;refine zB ?_;have:=B7 (a:=zJ (val a)) (b:=zJ (val b)) (m:=m) om om hn.2 om;rw[zP,zP] at this;rw[Y3 this]};{cbv;refine gJ rfl ?_ rfl;refine zB ?_;have:=B7 (a:=zJ (val b)) (b:=zJ (val a)) (m:=m) om om hn.2.symm om;rw[zP,zP] at this;rw[Y4 this]}}
  ·(cbv;refine gJ rfl ?_ rfl;refine zB ?_;have h0:n=0:=om;subst h0;have e:zJ (val a)=zJ (val b):=by grind);have:val a=val b:=by grind [zP]
   rw[this,QH]
 {cbv;refine zF (λh2=>?_) (λh2=>?_);{cbv;refine gJ rfl ?_ rfl;refine zB ?_;rw[Y3 (Zq om)]};{cbv;refine gJ rfl ?_ rfl;refine zB ?_;rw[Y4 (Zq om)]}}
theorem C2 (l:List UInt32)(i:Nat)(x:UInt32):(lm l).set i [.int .u32 x.toNat]=lm (l.set i x):=by simp[lm,List.map_set]
theorem s8 (n:Nat):ishr .u64 (n:Int) 32=((n/B:Nat):Int):=by unfold ishr;simp[IntKind.bits,B,As]
theorem fJ (out:List UInt32){k j:Nat}(hk:k=j)(d:Nat):(lm out).set k [.int .u32 (nx .u32 ((d:Nat):Int))]=lm (out.set j (UInt32.ofNat d)):=by subst hk;rw[<-C2,x7,gZ];simp[B]
theorem Eu (a b:List UInt32)(ha:a.length<2^40)(hb:b.length<2^40):zC 308 [nat a,nat b] (nat (zJ (val a+val b))):=by
 refine sF Tryz.f308 ?_;cbv;refine cA (aL a oM) ?_;cbv;refine cA (aL b oM) ?_;cbv;have ha':=xP (z5 a) ha;have hb':=xP (z5 b) hb;refine kU (σ:=List UInt32×List UInt32) (λs=>⟨[(0,nat s.1),(1,nat s.2),(4,.nil)],[]⟩) (λs=>s.2.length<=s.1.length/\s.1.length<2^40/\val s.1+val s.2=val a+val b) (λh=>?_) (λh=>?_) ?_;{cbv;refine⟨(zJ (val b),zJ (val a)),⟨om,hb',by grind [zP]⟩,.le ?_ trivial rfl⟩;cbv;exact okA};{cbv;refine⟨(zJ (val a),zJ (val b)),⟨om,ha',by simp only[zP]⟩,.le ?_ trivial rfl⟩;cbv;exact okA};intro s hs;obtain⟨hpq,hp,hv⟩:=hs;generalize s.1=p at *;generalize s.2=q at *;cbv;refine⟨zD om om,z8 om om,gU om om,?_⟩;cbv;refine z7 (σ:=Nat×Nat×List UInt32) (λs=>⟨[(0,nat p),(1,nat q),(5,yX 23 1 (p.length+1)),(6,.int .u64 (λ_=>(s.2.1:Int))),(24,nat p),(25,iV p.length),(26,iV s.1)],[(23,xF 1 (lm s.2.2))]⟩)
  (λs=>s.1<=p.length/\s.2.1<2/\s.2.2.length=p.length+1/\val (s.2.2.take s.1)+B^s.1*s.2.1=val (p.take s.1)+val (q.take s.1)) (λs=>p.length-s.1)
  (0,0,List.replicate (p.length+1) 0) ⟨om,om,by simp,by simp[val]⟩ (.le ?_ ?_ rfl) ?_
 {cbv;exact⟨lR,lR,zT rfl om,lR,lR,zB (by (try dsimp only [zV] at *) <;> (grind [zH]) <;> omega),lR,trivial⟩}
 ·(cbv;refine⟨zG ?_,trivial⟩;show List.replicate (((lm p).length:Int)+1).toNat _=_;have:(((lm p).length:Int)+1).toNat=p.length+1:=by grind [zH]);rw[this]
  simp[lm,xT,toD]
 intro s hs;obtain⟨h1,h2,h3,h4⟩:=hs;generalize s.1=i at *;generalize s.2.1=c at *;generalize s.2.2=out at *;cbv;refine zF (λh5=>?_) (λh5=>?_)
 ·cbv;refine xJ i (by (grind) <;> (try simp only[zH] at *) <;> omega) om ?_;cbv;have hpi:=yO (p.getD i 0);have hqi:=yO (q.getD i 0);simp only[B] at hpi hqi;refine kU (σ:=Unit) (λ_=>⟨[(0,nat p),(1,nat q),(5,yX 23 1 (p.length+1)),(6,.int .u64 (λ_=>((c+(p.getD i 0).toNat+(q.getD i 0).toNat:Nat):Int))),(7,iV i),(24,nat p),(25,iV p.length),(26,iV i)],[(23,xF 1 (lm out))]⟩) (λ_=>True) (λh6=>?_) (λh6=>?_) ?_
  ·cbv;refine xJ i (by (grind) <;> (try simp only[zH] at *) <;> omega) om ?_;cbv;refine⟨(),trivial,.le ?_ ?_ rfl⟩
   ·cbv;refine⟨lR,lR,lR,zB ?_,lR,lR,lR,lR,trivial⟩
    (try dsimp only [zV] at *)
    grind [uN]
   {cbv;exact⟨zG rfl,trivial⟩}
  ·cbv;refine⟨(),trivial,.le ?_ ?_ rfl⟩
   ·cbv;refine⟨lR,lR,lR,zB ?_,lR,lR,lR,lR,trivial⟩;have:(q.getD i 0).toNat=0:=by have:q.length<=i:=om;simp_all
    (try dsimp only [zV] at *)
    grind [uN]
   {cbv;exact⟨zG rfl,trivial⟩}
  intro _ _;generalize hd:c+(p.getD i 0).toNat+(q.getD i 0).toNat=d;cbv;refine⟨xI om om,gM i (by simp) om ?_⟩;cbv;refine⟨uH oM,zD om om,(i+1,d/B,out.set i (UInt32.ofNat d)),⟨om,?_,by grind,?_⟩,om,.le ?_ ?_ rfl⟩;{grind [B]}
  ·(show val ((out.set i (UInt32.ofNat d)).take (i+1))+B^(i+1)*(d/B)=val (p.take (i+1))+val (q.take (i+1));rw[qC _ om,z4 p,z4 q,x7];have e1:B^i*(d%B)+B^(i+1)*(d/B)=B^i*d:=by rw[uS,fN,<-qS,WZ]);grind
  {cbv;refine⟨lR,lR,lR,zB (s8 d),lR,lR,zB om,trivial⟩};{cbv;exact⟨zG (fJ out (by simp) d),trivial⟩}
 {cbv;refine⟨xI om om,gM p.length (by simp[zH]) om ?_⟩;cbv;have hi:i=p.length:=om;subst hi;refine qR (.trans (.le (ps':=⟨[(60,yX 23 1 (p.length+1))],[(23,xF 1 (lm (out.set p.length (UInt32.ofNat c))))]⟩) ?_ ?_ rfl) (.frz 23 rfl rfl ?_ ?_)) rfl (by refine⟨zR ?_,trivial⟩;grind [zH]) (aL (out.set p.length (UInt32.ofNat c)) (by grind)) rfl ?_;{cbv;exact okA};{cbv;exact⟨zG (fJ out (by simp[zH]) c),trivial⟩};{cbv;exact⟨zZ (by grind [zH]),trivial⟩};{exact trivial};cbv;refine gJ rfl ?_ rfl;refine zR ?_;congr 2;have e:=qC out (n:=p.length) oM (UInt32.ofNat c);rw[yU (by grind),x7,kE (show c<B by grind [B]),h4,yU (yD _),yU hpq] at e;omega}
theorem fI (out:List UInt32){k j:Nat}(hk:k=j){z:Int}{w:Nat}(hz:z=(w:Int))(hw:w<B):(lm out).set k [.int .u32 z]=lm (out.set j (UInt32.ofNat w)):=by subst hk hz;rw[<-C2,x7,kE hw]
theorem Bf (z:Int):ishr .u64 z 63=z/9223372036854775808:=by unfold ishr;simp[IntKind.bits,As]
theorem NE (a b:List UInt32)(ha:a.length<2^40)(hb:b.length<2^40):zC 309 [nat a,nat b] (.tup [nat (zJ (val a-val b)),iV (if val b<=val a then 0 else 2)]):=by
 refine sF Tryz.f309 ?_;cbv;refine cA (aL a oM) ?_;cbv;refine cA (aL b oM) ?_;cbv;have ha':=xP (z5 a) ha;have hb':=xP (z5 b) hb;refine cA (Hb _ _ ha' hb') ?_;cbv;simp only[zP];refine zF (λh=>?_) (λh=>?_)
 ·(have h':val a<val b:=by grind [QH,Y4]);cbv
  refine gJ rfl ?_ rfl;refine⟨yM ?_,zB ?_,trivial⟩;{rw[Nat.sub_eq_zero_of_le oM,y6];rfl};omega
 have hle:val b<=val a:=by grind [Y3]
 have hv:val (zJ (val a))=val a:=zP _;have hv2:val (zJ (val b))=val b:=zP _;have hpq:(zJ (val b)).length<=(zJ (val a)).length:=by rcases kV (zJ (val a)).length (zJ (val b)).length with h1|h1;{have:=Zq h1;omega};omega
 generalize zJ (val a)=p at *;generalize zJ (val b)=q at *;cbv;refine⟨z8 om om,gU om om,?_⟩;cbv;refine z7 (σ:=Nat×Nat×List UInt32) (λs=>⟨[(0,nat p),(1,nat q),(6,yX 21 1 p.length),(7,.int .u64 (λ_=>(s.2.1:Int))),(22,nat p),(23,iV p.length),(24,iV s.1)],[(21,xF 1 (lm s.2.2))]⟩)
  (λs=>s.1<=p.length/\s.2.1<2/\s.2.2.length=p.length/\val (s.2.2.take s.1)+val (q.take s.1)=val (p.take s.1)+B^s.1*s.2.1) (λs=>p.length-s.1)
  (0,0,List.replicate p.length 0) ⟨om,om,by simp,by simp[val]⟩ (.le ?_ ?_ rfl) ?_
 {cbv;exact⟨lR,lR,zT rfl om,lR,lR,zB (by (try dsimp only [zV] at *) <;> (grind [zH]) <;> omega),lR,trivial⟩}
 ·(cbv;refine⟨zG ?_,trivial⟩;show List.replicate (((lm p).length:Int)).toNat _=_;have:(((lm p).length:Int)).toNat=p.length:=by grind [zH]);rw[this]
  simp[lm,xT,toD]
 intro s hs;obtain⟨h1,h2,h3,h4⟩:=hs;generalize s.1=i at *;generalize s.2.1=c at *;generalize s.2.2=out at *;cbv;refine zF (λh5=>?_) (λh5=>?_)
 ·cbv;refine xJ i (by (grind) <;> (try simp only[zH] at *) <;> omega) om ?_;cbv;have hpi:=yO (p.getD i 0);have hqi:=yO (q.getD i 0);simp only[B] at hpi hqi;refine kU (σ:=Unit) (λ_=>⟨[(0,nat p),(1,nat q),(6,yX 21 1 p.length),(10,.int .u64 (λ_=>nx .u64 (((p.getD i 0).toNat:Int)-(c:Int)-((q.getD i 0).toNat:Int)))),(8,iV i),(22,nat p),(23,iV p.length),(24,iV i)],[(21,xF 1 (lm out))]⟩) (λ_=>True) (λh6=>?_) (λh6=>?_) ?_
  ·cbv;refine xJ i (by (grind) <;> (try simp only[zH] at *) <;> omega) om ?_;cbv;refine⟨(),trivial,.le ?_ ?_ rfl⟩
   ·cbv;refine⟨lR,lR,lR,zB ?_,lR,lR,lR,lR,trivial⟩
    (try dsimp only [zV] at *)
    grind [uN]
   {cbv;exact⟨zG rfl,trivial⟩}
  ·cbv;refine⟨(),trivial,.le ?_ ?_ rfl⟩
   ·cbv;refine⟨lR,lR,lR,zB ?_,lR,lR,lR,lR,trivial⟩;have:(q.getD i 0).toNat=0:=by have:q.length<=i:=om;simp_all
    (try dsimp only [zV] at *)
    grind [uN]
   {cbv;exact⟨zG rfl,trivial⟩}
  intro _ _;obtain⟨w,c',hw,hc',he⟩:∃ w c':Nat,w<B/\c'<2/\(p.getD i 0).toNat+B*c'=w+c+(q.getD i 0).toNat:=by simp only[B];by_cases hlt:(p.getD i 0).toNat<c+(q.getD i 0).toNat;{exact⟨(p.getD i 0).toNat+4294967296-c-(q.getD i 0).toNat,1,by omega,by omega,by omega⟩};{exact⟨(p.getD i 0).toNat-c-(q.getD i 0).toNat,0,by omega,by omega,by omega⟩}
  (have hz:nx .u64 (((p.getD i 0).toNat:Int)-(c:Int)-((q.getD i 0).toNat:Int))=if c'=0 then (w:Int) else (w:Int)+18446744069414584320:=by grind [uN,B]);simp only[hz]
  cbv;refine⟨xI om om,gM i (by simp) om ?_⟩;cbv;refine⟨uH oM,zD om om,(i+1,c',out.set i (UInt32.ofNat w)),⟨om,hc',by grind,?_⟩,om,.le ?_ ?_ rfl⟩;{show val ((out.set i (UInt32.ofNat w)).take (i+1))+val (q.take (i+1))=val (p.take (i+1))+B^(i+1)*c';rw[qC _ om,z4 p,z4 q,x7,kE hw];grind};{cbv;refine⟨lR,lR,lR,zB ?_,lR,lR,zB om,trivial⟩;grind [Bf,B]};{cbv;refine⟨zG (fI out (by simp) ?_ hw),trivial⟩;grind [gZ,B]}
 ·(cbv;have hi:i=p.length:=om;subst hi;refine qR (.trans (.le (ps':=⟨[(52,yX 21 1 p.length)],[(21,xF 1 (lm out))]⟩) ?_ ?_ rfl) (.frz 21 rfl rfl ?_ ?_)) rfl (by refine⟨zR ?_,trivial⟩;grind [zH]) (aL out oM) rfl ?_;{cbv;exact okA};{cbv;exact⟨zG rfl,trivial⟩};{cbv;exact⟨zZ (by grind [zH]),trivial⟩};{exact trivial};cbv;refine gJ rfl ?_ rfl;rw[yU oM,yU hpq,yU (yD _)] at h4;have hlo:=x8 out;have hlq:=x8 q;have hc0:c=0:=by grind);subst hc0;refine⟨zR ?_,zB ?_,trivial⟩
  all_goals grind
theorem x9 {n:Nat}(h:n<18446744073709551616):nx .u64 (n:Int)=(n:Int):=by grind [uN]
theorem Sw (a b:List UInt32)(ha:a.length<2^40)(hb:b.length<2^40):zC 288 [nat a,nat b] (nat (zJ (val a*val b))):=by
 refine sF Tryz.f288 ?_;cbv;refine cA (aL a oM) ?_;cbv;refine cA (aL b oM) ?_;cbv;have ha':=xP (z5 a) ha;have hb':=xP (z5 b) hb;have hv:val (zJ (val a))=val a:=zP _;have hv2:val (zJ (val b))=val b:=zP _;generalize zJ (val a)=p at *;generalize zJ (val b)=q at *
 
 refine zQ (λh=>?_) (λh=>?_);{cbv;refine gJ rfl ?_ rfl;refine yM ?_;have:p=[]:=kD om;subst this;rw[<-hv];simp[val,y6,lm]};cbv;refine zF (λh'=>?_) (λh'=>?_);{cbv;refine gJ rfl ?_ rfl;refine yM ?_;have:q=[]:=kD om;subst this;rw[<-hv2];simp[val,y6,lm]};cbv;refine⟨zD om om,z8 om om,gU om om,?_⟩;cbv;refine z7 (σ:=Nat×List UInt32) (λs=>⟨[(0,nat p),(1,nat q),(5,yX 28 1 (p.length+q.length)),(29,nat p),(30,iV p.length),(31,iV s.1)],[(28,xF 1 (lm s.2))]⟩)
  (λs=>s.1<=p.length/\s.2.length=p.length+q.length/\val s.2=val (p.take s.1)*val q/\∀ j,s.1+q.length<=j->s.2.getD j 0=0) (λs=>p.length-s.1)
  (0,List.replicate (p.length+q.length) 0) ⟨om,by simp,by simp[val,fD],λj _=>by grind⟩ (.le ?_ ?_ rfl) ?_
 {cbv;exact⟨lR,lR,zT rfl om,lR,zB (by (try dsimp only [zV] at *) <;> (grind [zH]) <;> omega),lR,trivial⟩}
 ·(cbv;refine⟨zG ?_,trivial⟩;show List.replicate (((lm p).length:Int)+((lm q).length:Int)).toNat _=_;have:(((lm p).length:Int)+((lm q).length:Int)).toNat=p.length+q.length:=by grind [zH]);rw[this]
  simp[lm,xT,toD]
 intro s hs;obtain⟨h1,h2,h3,h4⟩:=hs;generalize s.1=i at *;generalize s.2=out at *;cbv;refine zF (λh5=>?_) (λh5=>?_)
 ·cbv;refine xJ i (by (grind) <;> (try simp only[zH] at *) <;> omega) om ?_;cbv;have hx:=yO (p.getD i 0);generalize hpx:(p.getD i 0).toNat=x at *;refine z7 (σ:=Nat×Nat×List UInt32) (λs=>⟨[(0,nat p),(1,nat q),(5,yX 28 1 (p.length+q.length)),(29,nat p),(30,iV p.length),(31,iV i),(6,iV i),(7,.int .u32 (λ_=>(x:Int))),(8,.int .u64 (λ_=>(s.2.1:Int))),(36,nat q),(37,iV q.length),(38,iV s.1)],[(28,xF 1 (lm s.2.2))]⟩)
   (λs=>s.1<=q.length/\s.2.1<B/\s.2.2.length=p.length+q.length/\val s.2.2+B^(i+s.1)*s.2.1=val (p.take i)*val q+B^i*(x*val (q.take s.1))/\∀ j,i+q.length<=j->s.2.2.getD j 0=0) (λs=>q.length-s.1)
   (0,0,out) ⟨om,w9,h2,by simp[val,h3],h4⟩ (.le ?_ ?_ rfl) ?_
  {cbv;exact⟨lR,lR,lR,lR,lR,lR,lR,lR,lR,lR,zB (by (try dsimp only [zV] at *) <;> (grind [zH]) <;> omega),lR,trivial⟩};{cbv;exact⟨zG rfl,trivial⟩};intro s hs;obtain⟨g1,g2,g3,g4,g5⟩:=hs;generalize s.1=k at *;generalize s.2.1=c at *;generalize s.2.2=out' at *;cbv;refine zF (λh6=>?_) (λh6=>?_)
  ·(cbv;refine xJ k (by (grind) <;> (try simp only[zH] at *) <;> omega) om ?_;cbv;have hik:0+((i:Int)+(k:Int)).toNat=i+k:=by omega);refine⟨zD om om,xI om om,gM (i+k) hik om ?_⟩
   (cbv;refine⟨zD om om,xI om om,gM (i+k) hik om ?_⟩;cbv;have hy:=yO (q.getD k 0);have ho:=yO (out'.getD (i+k) 0);have hset:=rL out' (j:=i+k) om (UInt32.ofNat (c+(x*(q.getD k 0).toNat+(out'.getD (i+k) 0).toNat)));have htk:=z4 q k;generalize hqy:(q.getD k 0).toNat=y at *;generalize hoo:(out'.getD (i+k) 0).toNat=o at *;have hm:x*y<=4294967295*4294967295:=Nat.mul_le_mul (by grind [B]) (by grind [B]);have hB:B=4294967296:=rfl;have hT:nx .u64 ((c:Int)+nx .u64 (nx .u64 (nx .u64 (x:Int)*nx .u64 (y:Int))+nx .u64 (o:Int)))=((c+(x*y+o):Nat):Int):=by rw[x9 (n:=x) oM,x9 (n:=y) oM,x9 (n:=o) oM,<-Int.natCast_mul,x9 (n:=x*y) oM,<-Int.natCast_add,x9 (n:=x*y+o) oM,<-Int.natCast_add,x9 oM]);refine⟨uH oM,zD om om,(k+1,(c+(x*y+o))/B,out'.set (i+k) (UInt32.ofNat (c+(x*y+o)))),⟨om,?_,by grind,?_,?_⟩,om,.le ?_ ?_ rfl⟩
   {grind}
   ·show val (out'.set (i+k) (UInt32.ofNat (c+(x*y+o))))+B^(i+(k+1))*((c+(x*y+o))/B)=val (p.take i)*val q+B^i*(x*val (q.take (k+1)));rw[htk];rw[x7] at hset;have e0:∀ t,B^(i+k)*(t%B)+B^(i+(k+1))*(t/B)=B^(i+k)*t:=by
     (intro t;have:i+(k+1)=(i+k)+1:=by omega);rw[this,uS,fN,<-qS,WZ]
    grind
   {intro j hj;show (out'.set (i+k) _).getD j 0=0;rw[tO _ _ _ _ (by exact om)];grind};{cbv;refine⟨lR,lR,lR,lR,lR,lR,lR,lR,zB ?_,lR,lR,zB om,trivial⟩;exact (congrArg (λz=>ishr .u64 z 32) hT).trans (s8 _)};{cbv;refine⟨zG ?_,trivial⟩;exact (congrArg (λz=>(lm out').set (0+((i:Int)+(k:Int)).toNat) [.int .u32 (nx .u32 z)]) hT).trans (fJ out' hik _)}
  ·(cbv;have hkq:k=q.length:=om;subst hkq;have hlq:0+((i:Int)+((lm q).length:Int)).toNat=i+q.length:=by grind [zH]);refine⟨zD om om,xI om om,gM (i+q.length) hlq om ?_⟩
   cbv;refine⟨zD om om,(i+1,out'.set (i+q.length) (UInt32.ofNat c)),⟨om,by grind,?_,?_⟩,om,.le ?_ ?_ rfl⟩;{show val (out'.set (i+q.length) (UInt32.ofNat c))=val (p.take (i+1))*val q;have hset:=rL out' (j:=i+q.length) om (UInt32.ofNat c);rw[g5 _ (yD _),x7,kE g2] at hset;rw[yU (yD _)] at g4;rw[z4 p,hpx,jI,fN];grind};{grind [tO]};{cbv;exact⟨lR,lR,lR,lR,lR,zB om,trivial⟩};{cbv;exact⟨zG (fJ out' hlq c),trivial⟩}
 {cbv;have hip:i=p.length:=om;subst hip;refine qR (.trans (.le (ps':=⟨[(77,yX 28 1 (p.length+q.length))],[(28,xF 1 (lm out))]⟩) ?_ ?_ rfl) (.frz 28 rfl rfl ?_ ?_)) rfl (by refine⟨zR ?_,trivial⟩;grind [zH]) (aL out oM) rfl ?_;{cbv;exact okA};{cbv;exact⟨zG rfl,trivial⟩};{cbv;exact⟨zZ (by grind [zH]),trivial⟩};{exact trivial};cbv;refine gJ rfl ?_ rfl;rw[yU (yD _)] at h3;refine zR ?_;grind}
end Go.Proofs.YtaeaffgjdcigoaaGreat
namespace Go.Proofs.YtaeaffgjdcigoaaGreat
def pad (n m:Nat):List UInt32:=zJ n++List.replicate (m-(zJ n).length) 0
theorem Hn {l:List UInt32}{n m:Nat}(hl:l.length=m)(hv:val l=n):l=pad n m:=by
 have h1:(zJ n).length<=m:=by rw[<-hv,<-hl];exact z5 l
 refine YO ?_ ?_
 all_goals grind [pad,vV,fD,zP]
theorem sY {n m:Nat}(h:n<B^m):(pad n m).length=m:=by have:=yF h;grind [pad]
theorem eU (n m:Nat):val (pad n m)=n:=by grind [pad,vV,fD,zP]
theorem Dz {l:List UInt32}{n:Nat}(hl:l.length=n+2):val l=val (l.take n)+B^n*((l.getD (n+1) 0).toNat*B+(l.getD n 0).toNat):=by have h1:=z4 l n;have h2:=z4 l (n+1);rw[List.take_of_length_le (by omega)] at h2;rw[h2,h1,Nat.pow_succ,Nat.mul_add,Nat.mul_assoc,Nat.mul_comm B];omega
theorem Dy {l:List UInt32}{n:Nat}(hl:l.length=n+3):val l=val (l.take n)+B^n*(((l.getD (n+2) 0).toNat*B+(l.getD (n+1) 0).toNat)*B+(l.getD n 0).toNat):=by
 have h1:=z4 l n;have h2:=z4 l (n+1);have h3:=z4 l (n+2);rw[List.take_of_length_le (by omega)] at h3;rw[h3,h2,h1];have e:B^(n+2)=B^n*(B*B):=by grind
 rw[e,Nat.pow_succ,Nat.mul_add,Nat.add_mul,Nat.mul_add,Nat.mul_assoc,Nat.mul_assoc];grind
structure EstInv (U V P top v1 v2 u2:Nat) (q r:Nat):Prop where
 top:q*v1+r=top
 lo:U<(q+1)*V
theorem BT {U V P top v1 v2 u2 ur vr:Nat}(hv1:0<v1)(hU:U=ur+P*(top*B+u2))(hV:V=vr+P*(v1*B+v2))(hur:ur<P)(hu2:u2<B):EstInv U V P top v1 v2 u2 (top/v1) (top%v1):=by
 refine⟨by rw[Nat.mul_comm];exact Nat.div_add_mod top v1,?_⟩;have h1:top+1<=(top/v1+1)*v1:=by have:=Nat.div_add_mod top v1;have:=Nat.mod_lt top hv1;grind
 have h2:(top+1)*B<=(top/v1+1)*(v1*B+v2):=by rw[Nat.mul_add,<-Nat.mul_assoc];exact Nat.le_trans (Nat.mul_le_mul_right B h1) (Nat.le_add_right _ _)
 have h3:top*B+u2+1<=(top+1)*B:=by grind
 have h4:=Nat.mul_le_mul_left P (Nat.le_trans h3 h2);have h5:(top/v1+1)*V=(top/v1+1)*vr+P*((top/v1+1)*(v1*B+v2)):=by grind
 have h6:P*(top*B+u2+1)=P*(top*B+u2)+P:=by grind
 omega
theorem BS {U V P top v1 v2 u2 ur vr q r:Nat}(hU:U=ur+P*(top*B+u2))(hV:V=vr+P*(v1*B+v2))(hur:ur<P) (ht:q*v1+r=top) (h:r*B+u2<q*v2):U<q*V:=by
 have h1:top*B+u2+1<=q*(v1*B+v2):=by rw[<-ht,Nat.mul_add,Nat.add_mul,Nat.mul_assoc];omega
 have h2:=Nat.mul_le_mul_left P h1;have h3:q*V=q*vr+P*(q*(v1*B+v2)):=by grind
 have h4:P*(top*B+u2+1)=P*(top*B+u2)+P:=by grind
 omega
theorem BR {U V P top v1 v2 u2 q r:Nat}(hq:0<q)(ht:q*v1+r=top)(h:U<q*V):EstInv U V P top v1 v2 u2 (q-1) (r+v1):=by obtain⟨k,rfl⟩:∃ k,q=k+1:=⟨q-1,by omega⟩;refine⟨?_,by grind⟩;grind
theorem Ul {U V P top v1 v2 u2 ur vr q r:Nat}(hv1:0<v1)(hU:U=ur+P*(top*B+u2))(hV:V=vr+P*(v1*B+v2))(hvr:vr<P) (ht:q*v1+r=top) (hq:q<=B) (h:q*v2<=r*B+u2):q*V<=U+V:=by
 have h1:q*(v1*B+v2)<=top*B+u2:=by rw[<-ht,Nat.mul_add,Nat.add_mul,Nat.mul_assoc];omega
 have h2:=Nat.mul_le_mul_left P h1;have h3:q*V=q*vr+P*(q*(v1*B+v2)):=by grind
 have h4:q*vr<=B*P:=Nat.mul_le_mul hq (Nat.le_of_lt hvr);have h5:B*P<=P*(v1*B+v2):=by rw[Nat.mul_comm B P];refine Nat.mul_le_mul_left P (Nat.le_trans (?_:B<=v1*B) (Nat.le_add_right _ _));exact Nat.le_mul_of_pos_left B hv1
 omega
def lW (v1 v2 u2 q r:Nat):Nat :=
 if h:B<=r\/v1=0 then q
 else if B<=q\/r*B+u2<q*v2 then (if B<=r+v1 then q-1 else lW v1 v2 u2 (q-1) (r+v1)) else q
termination_by B-r
decreasing_by omega
structure Est (U V q:Nat):Prop where
 b:q<B
 lo:U<(q+1)*V
 hi:q*V<=U+V
theorem Jh {U V P top v1 v2 u2 ur vr:Nat}(hv1:0<v1)(hv2:v2<B)(hu2:u2<B)(hU:U=ur+P*(top*B+u2))(hV:V=vr+P*(v1*B+v2))(hur:ur<P)(hvr:vr<P)(hlt:U<B*V)(htop:top<v1*B+B):∀ n q r,B-r<=n->EstInv U V P top v1 v2 u2 q r->r<B->q<=B+1->Est U V (lW v1 v2 u2 q r)
 |0,q,r,hn,hi,hr,hq=>by omega| n+1,q,r,hn,hi,hr,hq=>by
  rw[lW];rw[dif_neg (by omega)];by_cases hc:B<=q\/r*B+u2<q*v2
  ·(rw[if_pos hc];have hq0:0<q:=by grind);have hover:U<q*V:=by rcases hc with h|h;{exact Nat.lt_of_lt_of_le hlt (Nat.mul_le_mul_right V h)};{exact BS hU hV hur hi.top h}
   have hst:=BR (P:=P) (v2:=v2) (u2:=u2) hq0 hi.top hover;by_cases h2:B<=r+v1
   ·(rw[if_pos h2];have hqB:q-1<B:=by rcases Nat.lt_or_ge (q-1) B with h|h;{exact h};{have h3:=hst.top;have h4:=Nat.mul_le_mul_right v1 h;rw[Nat.mul_comm B v1] at h4;omega});refine⟨hqB,hst.lo,Ul (r:=r+v1) (v2:=v2) (u2:=u2) hv1 hU hV hvr hst.top (Nat.le_of_lt hqB) ?_⟩;have h5:(q-1)*v2<=B*B:=Nat.mul_le_mul (Nat.le_of_lt hqB) (Nat.le_of_lt hv2);grind [B]
   {rw[if_neg h2];exact Jh hv1 hv2 hu2 hU hV hur hvr hlt htop n _ _ (by omega) hst (by omega) (by omega)}
  ·(rw[if_neg hc];have h1:q<B:=by omega);exact⟨h1,hi.lo,Ul hv1 hU hV hvr hi.top (Nat.le_of_lt h1) (by omega)⟩
def YB (U V q:Nat):Nat:=if q*V<=U then q else q-1
theorem B4 {U V q:Nat}(hV:0<V)(h:Est U V q):YB U V q=U/V:=by
 unfold YB;split;{rename_i h1;exact (Nat.div_eq_of_lt_le h1 h.lo).symm}
 ·(rename_i h1;have h1:U<q*V:=by omega);have hq:q≠0:=λe=>by grind
  obtain⟨k,rfl⟩:∃ k,q=k+1:=⟨q-1,by omega⟩;have h2:=h.hi;rw[Nat.add_mul,Nat.one_mul] at h2;grind [Nat.div_eq_of_lt_le]
theorem eW {l:List UInt32}(n:Nat)(h:n<=l.length):val l=val (l.take n)+B^n*val (l.drop n):=by
 have e:(l.take n).length=n:=by grind
 calc val l=val (l.take n++l.drop n):=by simp_all
  _=_:=by rw[vV,e]
theorem kY {l:List UInt32}{i:Nat}(h:i<l.length):val (l.drop i)=(l.getD i 0).toNat+B*val (l.drop (i+1)):=by
 have:l.drop i=l.getD i 0::l.drop (i+1):=by simp_all
 rw[this];rfl
theorem Xc {l:List UInt32}(n:Nat)(hn:n<=l.length)(h:val l<B^n):val (l.drop n)=0:=by have h1:=eW n hn;rcases Nat.eq_zero_or_pos (val (l.drop n)) with h2|h2;{exact h2};{have:=Nat.mul_le_mul_left (B^n) h2;omega}
theorem Df {pre x post:List UInt32}{V n q:Nat}(hx:x.length=n+1)(hpost:val post=0)(hV:val x<V*B)(hVn:V<B^n)(h0:0<V)(hq:q=val x/V):q<B/\val (pad (val x-q*V) (n+1)++post)<V /\ val (pre++(pad (val x-q*V) (n+1)++post))+V*(B^pre.length*q)=val (pre++(x++post)):=by
 have hmod:val x-q*V=val x%V:=by grind [Nat.div_add_mod]
 have hlt:=Nat.mod_lt (val x) h0;refine⟨by rw[hq,Nat.div_lt_iff_lt_mul h0,Nat.mul_comm];exact hV,?_,?_⟩;{grind [vV,eU]};{rw[vV,vV,vV,vV,eU,hpost,hmod];simp only[Nat.mul_zero,Nat.add_zero];grind [Nat.div_add_mod]}
end Go.Proofs.YtaeaffgjdcigoaaGreat
