/- A part of the proof: NtE, NtF, NtG, NtH. -/
import Derived.Test.YtaeaffgjdcigoaaGreatW14
import Derived.Test.YtaeaffgjdcigoaaGreatW15
set_option linter.all false
namespace Go.Proofs.YtaeaffgjdcigoaaGreat
open Go
set_option maxRecDepth 100000
def Ql {a b:Nat}(ha:a<4294967296)(hb:b<4294967296):ior .u32 (a:Int) (b:Int)=((a ||| b:Nat):Int):=by
 unfold ior;have h1:a ||| b<2^32:=Ur ha hb;have key:(BitVec.ofInt 32 (a:Int) ||| BitVec.ofInt 32 (b:Int)).toNat=a ||| b:=by grind
 show IntKind.u32.wrap ((BitVec.ofInt 32 (a:Int) ||| BitVec.ofInt 32 (b:Int)).toNat:Int)=_;rw[key];have:=gZ ((a ||| b:Nat):Int);grind [nx]
def tJ {a k c:Nat}(ha:a<2^k):a ||| (2^k*c)=a+2^k*c:=by rw[Nat.or_comm,YE,Nat.two_pow_add_eq_or_of_lt ha]
theorem p7 {a k:Nat}(hk:k<64)(h:a*2^k<18446744073709551616):ishl .u64 (a:Int) (k:Int)=((a*2^k:Nat):Int):=by unfold ishl;have:=uN ((a*2^k:Nat):Int);grind [nx,IntKind.bits]
def Mr {els:List (List D)}{l:List UInt32}(he:els=lm l){i:Nat}{K:List PV->Prop}(j:Nat)(hk:i=j)(hj:j<l.length)(hK:K [.int .u32 (λ_=>((l.getD j 0).toNat:Int))]):ElOk 1 (λ_=>els) (λ_=>i) K:=by subst he;exact gM j hk hj hK
def Ny (a:List UInt32)(k:Nat)(ha:a.length<2^40)(hk:k<32):Sound 304 [nat a,iV k] [] [] (yX 12 1 (a.length+1)) [] [(12,xF 1 (lm (pad (val a*2^k) (a.length+1))))]:=by
 refine sF Tryz.f304 ?_;cbv;refine⟨zD om om,z8 om om,gU om om,?_⟩;cbv;refine z7 (σ:=Nat×List UInt32) (λs=>⟨[(0,nat a),(1,iV k),(5,yX 12 1 (a.length+1)),(13,nat a),(14,iV a.length),(15,iV s.1)],[(12,xF 1 (lm s.2))]⟩)
  (λs=>s.1<=a.length/\s.2.length=a.length+1/\val s.2=val (a.take s.1)*2^k/\(s.2.getD s.1 0).toNat<2^k/\∀ j,s.1<j->s.2.getD j 0=0) (λs=>a.length-s.1)
  (0,List.replicate (a.length+1) 0) ⟨om,by simp,by simp[val,fD],by simp;grind,λj _=>by grind⟩ (.le ?_ ?_ rfl) ?_
 {cbv;exact⟨lR,lR,zT rfl om,lR,zB (by (try dsimp only [zV] at *) <;> (grind [zH]) <;> omega),lR,trivial⟩}
 ·(cbv;refine⟨zG ?_,trivial⟩;show List.replicate (((lm a).length:Int)+1).toNat _=_;have:(((lm a).length:Int)+1).toNat=a.length+1:=by grind [zH]);rw[this]
  simp[lm,xT,toD]
 intro s hs;obtain⟨h1,h2,h3,h3',h4⟩:=hs;generalize s.1=i at *;generalize s.2=out at *;cbv;refine zF (λh5=>?_) (λh5=>?_)
 ·(cbv;refine xJ i (by (grind) <;> (try simp only[zH] at *) <;> omega) om ?_;cbv;refine⟨uH om,xI om om,gM i (by simp) om ?_⟩;cbv;refine⟨xI om om,gM i (by simp) om ?_⟩;cbv;have hd:=yO (a.getD i 0);have ho:=yO (out.getD i 0);generalize hdd:(a.getD i 0).toNat=d at *;generalize hoo:(out.getD i 0).toNat=o at *;have hB:B=4294967296:=rfl;have hx:d*2^k<4294967296*4294967296:=Uq oM (tB oM hk);have hT:ishl .u64 (nx .u64 (d:Int)) (k:Int)=((d*2^k:Nat):Int):=by grind [x9,p7]);have hmod:∃ c,(d*2^k)%B=2^k*c:=by
   (have hB2:B=2^k*2^(32-k):=by rw[<-bR];grind);rw[hB2,kI d,Nat.mul_mod_mul_left]
   grind
  (obtain⟨e,he⟩:=hmod;have hml:(d*2^k)%B<B:=vK _ w9;have hw:o+(d*2^k)%B<B:=by rw[he,<-tJ h3'];exact Ur (n:=32) ho oM);have hW:ior .u32 (o:Int) (nx .u32 (ishl .u64 (nx .u64 (d:Int)) (k:Int)))=((o+(d*2^k)%B:Nat):Int):=by
   (have h8:nx .u32 ((d*2^k:Nat):Int)=(((d*2^k)%B:Nat):Int):=by grind [gZ]);rw[hT,h8,Ql ho hml,he,tJ h3']
  (have hset1:=rL out (j:=i) om (UInt32.ofNat (o+(d*2^k)%B));have hels:(lm out).set (0+(i:Int).toNat) [.int .u32 (ior .u32 (o:Int) (nx .u32 (ishl .u64 (nx .u64 (d:Int)) (k:Int))))]=lm (out.set i (UInt32.ofNat (o+(d*2^k)%B))):=by rw[hW];exact fI out (by simp) rfl hw);have hlen1:(out.set i (UInt32.ofNat (o+(d*2^k)%B))).length=a.length+1:=by grind
  (have hi1:0+((i:Int)+1).toNat=i+1:=by omega);generalize hout1:out.set i (UInt32.ofNat (o+(d*2^k)%B))=out1 at *
  (refine⟨zD om om,uH oM,xI om om,Mr hels (i+1) hi1 om ?_⟩;cbv;have hz1:out1.getD (i+1) 0=0:=by grind [tO]);have hset2:=rL out1 (j:=i+1) om (UInt32.ofNat (d*2^k/B))
  (have hq:d*2^k/B<2^k:=by rw[Zy w9,kI];exact Nat.mul_lt_mul_of_pos_left hd (Nat.pow_pos oM));have hqB:d*2^k/B<B:=bQ hq (show 2^k<2^32 from tB oM hk);refine⟨zD om om,(i+1,out1.set (i+1) (UInt32.ofNat (d*2^k/B))),⟨om,by grind,?_,?_,?_⟩,om,.le ?_ ?_ rfl⟩
  ·(show val (out1.set (i+1) _)=val (a.take (i+1))*2^k;rw[z4 a,hdd,jI,<-h3,fN];rw[hz1,x7,kE hqB] at hset2;rw[x7,kE hw] at hset1;have e1:B^i*((d*2^k)%B)+B^(i+1)*(d*2^k/B)=B^i*(d*2^k):=by rw[uS,fN,<-qS,WZ]);grind
  ·(show ((out1.set (i+1) _).getD (i+1) 0).toNat<2^k;have:(out1.set (i+1) (UInt32.ofNat (d*2^k/B))).getD (i+1) 0=UInt32.ofNat (d*2^k/B):=by have:i+1<out1.length:=om;grind);grind [x7]
  {grind [tO]};{cbv;exact⟨lR,lR,lR,lR,lR,zB om,trivial⟩};{cbv;refine⟨zG ?_,trivial⟩;show ((lm out).set (0+(i:Int).toNat) [.int .u32 (ior .u32 (o:Int) (nx .u32 (ishl .u64 (nx .u64 (d:Int)) (k:Int))))]).set (0+((i:Int)+1).toNat) [.int .u32 (nx .u32 (ishr .u64 (ishl .u64 (nx .u64 (d:Int)) (k:Int)) 32))]=_;rw[hels,hT,s8];exact fJ out1 hi1 _}
 {cbv;have hip:i=a.length:=om;subst hip;rw[yU (yD _)] at h3;refine⟨⟨_,_,id,.refl _,rfl,bY (lR),rfl,?_,rfl,trivial⟩⟩;exact⟨⟨by rw[Hn h2 h3];rfl,rfl⟩,trivial⟩}
def Yk {f : FuncId} {fn : Func} (hf : Pg.funcs[f]? = some fn) (hb : fn.body.isSome = true) (hname : (fn.name == "runtime.NumGoroutine") = false) {k k' : IntKind} {x z : Int} (h:∀ w,Calls Pg f #[.int k x] w λe w'=>e=.returned (.int k' z)/\w'=w):zC f [.int k (λ_=>x)] (.int k' (λ_=>z)) where
 isf vals w:=by
  (obtain⟨c,hc⟩:=JI.1 hb;have hn : ¬ fn.name = "runtime.NumGoroutine" := by grind);simp[callFunc,hf,hn,hc]
 go w S β vals hbnd hobj hsz hrep:=by
  have h0:=vY (hrep 0 (by simp));have hv:vals=#[.int k x]:=by
   apply Array.ext;{omega}
   ·(intro i h1 h2;have:i=0:=by grind);simp_all
  subst hv;refine (h w).mono ?_;rintro e w' ⟨rfl,rfl⟩;exact⟨_,S,β,rfl,⟨yD _,rfl,rfl,rfl,λ_ _ _=>rfl,λb vs T h=>⟨vs,h,rfl⟩,hbnd,λ_ _ _ h=>h,λ_ _ _ _ h=>h⟩,.c rfl (.int _ _),hobj,rfl,λ_ _ h=>by simp at h,λn o b h=>by simp at h⟩
def N7:Pg.funcs[221]?=some Tryz.f221:=by rw[uZ];rfl
def ND (x:Nat)(hx:x<4294967296):zC 221 [.int .u32 (λ_=>(x:Int))] (iV ((Lib.bitLen x:Int))):=by refine Yk N7 rfl rfl λw=>?_;grind [uZ,NZ]
theorem cC {x:Nat}(hx:x<4294967296):Lib.bitLen x<=32:=Lib.bitLen_le x 32 oM oM
def Eq (x:Nat)(hx:x<4294967296):zC 303 [.int .u32 (λ_=>(x:Int))] (iV (32-(Lib.bitLen x:Int))):=by refine sF Tryz.f303 ?_;have:=cC hx;cbv;refine cA (ND x hx) ?_;cbv;refine⟨zD om om,?_⟩;exact gJ rfl (lR) rfl
def gO (n:Nat):Nat:=if n=0 then 0 else 32*((zJ n).length-1)+Lib.bitLen ((zJ n).getD ((zJ n).length-1) 0).toNat
def WR {x:Nat}(h:x≠0)(hx:x<4294967296):0<Lib.bitLen x:=by grind [Lib.bitLen_half]
def P7 {n:Nat}(h:n≠0):((zJ n).getD ((zJ n).length-1) 0).toNat≠0:=by have h1:=rY n;rw[tT (λe=>h (wD.1 e))] at h1;intro e;have:(zJ n).getD ((zJ n).length-1) 0=0:=Zt.1 e;grind
theorem lO {n:Nat}:gO n=0↔n=0:=by unfold gO;split;{simp_all};{rename_i h;have:=WR (P7 h) (yO _);omega}
def Ai {n:Nat}:gO n<=32*(zJ n).length:=by
 unfold gO;split;{omega}
 ·(rename_i h;have h1:=cC (x:=((zJ n).getD ((zJ n).length-1) 0).toNat) (yO _);have:0<(zJ n).length:=by rcases WY (zJ n).length with e|e;exact absurd (wD.1 (kD e)) h;exact e);omega
def NI (l:List UInt32)(hl:l.length<2^40):zC 274 [nat l] (iV ((gO (val l):Int))):=by
 refine sF Tryz.f274 ?_;have hl':=xP (z5 l) hl;cbv;refine cA (aL l oM) ?_;cbv;refine zF (λh=>?_) (λh=>?_);{cbv;refine gJ rfl ?_ rfl;have:val l=0:=wD.1 (kD om);exact zB (by grind [lO])}
 ·(cbv;have h0:val l≠0:=λe=>h (by rw[e,y6];rfl);have hp:0<(zJ (val l)).length:=om;refine⟨zD om om,zD om om,zD om om,xJ ((zJ (val l)).length-1) om om ?_⟩;cbv;have h3:=cC (x:=((zJ (val l)).getD ((zJ (val l)).length-1) 0).toNat) (yO _);have h5:gO (val l)=32*((zJ (val l)).length-1)+Lib.bitLen ((zJ (val l)).getD ((zJ (val l)).length-1) 0).toNat:=by rw[gO,if_neg h0]);refine cA (ND ((zJ (val l)).getD ((zJ (val l)).length-1) 0).toNat (yO _)) ?_
  generalize Lib.bitLen ((zJ (val l)).getD ((zJ (val l)).length-1) 0).toNat=t at *;cbv;refine⟨zD om om,?_⟩;refine gJ rfl ?_ rfl;exact zB (by rw[h5];(try dsimp only [zV] at *);grind [zH])
theorem KV {a b:Nat}(ha:a<18446744073709551616)(hb:b<18446744073709551616):ior .u64 (a:Int) (b:Int)=((a ||| b:Nat):Int):=by
 unfold ior;have h1:a ||| b<2^64:=Ur ha hb;have key:(BitVec.ofInt 64 (a:Int) ||| BitVec.ofInt 64 (b:Int)).toNat=a ||| b:=by grind
 show IntKind.u64.wrap ((BitVec.ofInt 64 (a:Int) ||| BitVec.ofInt 64 (b:Int)).toNat:Int)=_;rw[key];have:=uN ((a ||| b:Nat):Int);grind [nx]
theorem or2 {a b:Nat}(ha:a<4294967296)(hb:b<4294967296):ior .u64 (a:Int) (ishl .u64 (nx .u64 (b:Int)) 32)=((a+4294967296*b:Nat):Int):=by have h1:=p7 (a:=b) (k:=32) oM oM;rw[x9 oM];show ior .u64 (a:Int) (ishl .u64 (b:Int) ((32:Nat):Int))=_;rw[h1,KV oM oM,kI b,tJ (k:=32) ha]
theorem TS {a b:Nat}(ha:a<4294967296)(hb:b<4294967296):ior .u64 (ishl .u64 (b:Int) 32) (nx .u64 (a:Int))=((a+4294967296*b:Nat):Int):=by have h1:=p7 (a:=b) (k:=32) oM oM;rw[x9 oM];show ior .u64 (ishl .u64 (b:Int) ((32:Nat):Int)) (a:Int)=_;rw[h1,KV oM oM,kI b,Nat.or_comm,tJ (k:=32) ha]
def C6 {n:Nat}:(zJ n).length<=2↔n<B*B:=by constructor;{intro h;have h1:=x8 (zJ n);rw[zP] at h1;have:=dN w9 h;grind};{intro h;exact yF (by grind)}
def NB (l:List UInt32)(hl:l.length<2^40):zC 301 [nat l] (.tup [.int .u64 (λ_=>((if val l<B*B then val l else 0:Nat):Int)),zL (decide (val l<B*B))]):=by
 refine sF Tryz.f301 ?_;have hl':=xP (z5 l) hl;cbv;refine cA (aL l oM) ?_;cbv;refine zF (λh=>?_) (λh=>?_)
 ·(cbv;have h1:¬val l<B*B:=λh1=>by have:=C6.2 h1;(try dsimp only [zV] at *);grind [zH]);refine gJ rfl ?_ rfl
  exact⟨zB (by grind),zK (decide_eq_false h1),trivial⟩
 ·have h2:(zJ (val l)).length<=2:=om;have h1:val l<B*B:=C6.1 h2;have hv:=zP (val l);generalize zJ (val l)=p at *;cbv;refine z7 (σ:=Nat) (λs=>⟨[(0,nat p),(4,.int .u64 (λ_=>(val (p.take s):Int))),(12,nat p),(13,iV p.length),(14,iV s)],[]⟩)
   (λs=>s<=p.length) (λs=>p.length-s) 0 om (.le ?_ trivial rfl) ?_
  {cbv;exact⟨lR,lR,lR,zB (by (try dsimp only [zV] at *) <;> (grind [zH]) <;> omega),lR,trivial⟩};intro i hi;cbv;refine zF (λh5=>?_) (λh5=>?_)
  ·cbv;refine xJ i (by (grind) <;> (try simp only[zH] at *) <;> omega) om ?_;cbv;refine⟨zD om om,uH om,zD om om,i+1,om,om,.le ?_ trivial rfl⟩;cbv;have hd:=yO (p.getD i 0);have hv1:=w6 p i;have hv2:=z4 p i;refine⟨lR,zB ?_,lR,lR,zB om,trivial⟩;have hi2:i=0\/i=1:=om;simp only[B] at hd;rcases hi2 with rfl|rfl
   ·(rw[hv2];simp only[val,List.take_zero,Nat.pow_zero,Nat.one_mul];have e:=or2 (a:=0) (b:=0) oM oM;have h9:ishl .u64 (nx .u64 ((p.getD 0 0).toNat:Int)) (32*((0:Nat):Int))=((p.getD 0 0).toNat:Int):=by grind [p7,x9]);grind [KV]
   {rw[hv2];rw[Nat.pow_one] at hv1 ⊢;have:=or2 (a:=val (p.take 1)) (b:=(p.getD 1 0).toNat) hv1 oM;show ior .u64 (val (p.take 1):Int) (ishl .u64 (nx .u64 ((p.getD 1 0).toNat:Int)) 32)=_;rw[this];rfl}
  {cbv;refine gJ rfl ?_ rfl;have:i=p.length:=om;subst this;rw[yU (yD _)];exact⟨zB (by grind),yV (decide_eq_true h1),trivial⟩}
def DN {bi b1 Y s:Nat}(hs:s<32)(hb:bi<B)(h1:b1=Y%B):(bi+B*Y)/2^s=((bi+B*b1)/2^s)%B+B*(Y/2^s):=by
 have hP:0<2^s:=WX s;have hB:B=2^s*2^(32-s):=by
  (rw[<-bR];have:s+(32-s)=32:=by omega);rw[this];rfl
 have key:∀ y,(bi+B*y)/2^s=(bi+B*(y%2^s))/2^s+B*(y/2^s):=by
  (intro y;have e:bi+B*y=(bi+B*(y%2^s))+2^s*(B*(y/2^s)):=by grind [Nat.mod_add_div]);rw[e,Lh _ _ hP]
 have hmod:b1%2^s=Y%2^s:=by simp_all
 have hlt:(bi+B*(Y%2^s))/2^s<B:=by rw[Zy hP];have h2:=vK Y hP;grind [B]
 grind [Nat.add_mul_mod_self_left,Nat.mod_eq_of_lt]
def Be {a k:Nat}(hk:k<=64):ishr .u64 (a:Int) (k:Int)=((a/2^k:Nat):Int):=by grind [ishr,IntKind.bits]
theorem wH {a b:Nat}:irem (a:Int) (b:Int)=((a%b:Nat):Int):=by grind [irem]
def m8 {a b:Nat}:iquo (a:Int) (b:Int)=((a/b:Nat):Int):=by grind [iquo]
def tG {l:List UInt32}(j:Nat):(l.getD j 0).toNat=val (l.drop j)%B:=by rcases kV j l.length with h|h;{rw[kY h,Pm,kE (yO _)]};{rw[eN h];simp[tD h,val]}
def Vq (n k:Nat):val ((zJ n).drop (k/32))/2^(k%32)=n/2^k:=by
 have e:val ((zJ n).drop (k/32))=n/B^(k/32):=by rcases kV (zJ n).length (k/32) with h|h;{rw[eN oM];have h1:=x8 (zJ n);rw[zP] at h1;have:=dN w9 (pK h);rw[JG oM];rfl};{have h1:=eW (l:=zJ n) (k/32) h;rw[zP] at h1;have h2:=w6 (zJ n) (k/32);grind [Nat.add_mul_div_left,Nat.div_eq_of_lt]}
 rw[e,Nat.div_div_eq_div_mul];congr 1;show (2^32)^(k/32)*2^(k%32)=2^k;rw[<-eM,<-bR];grind
theorem mV {z:Int}(h1:-9223372036854775808<=z)(h2:z<9223372036854775808):nx .i64 z=z:=by grind [nx,IntKind.wrap,IntKind.signed,IntKind.bits]
def En (a:List UInt32)(k:Nat)(ha:a.length<2^40)(hk:k<=1048576):zC 307 [nat a,iV k] (.tup [nat (zJ (val a/2^k)),iV 0]):=by
 refine sF Tryz.f307 ?_;have ha':=xP (z5 a) ha;have hdp:=Vq (val a) k;have hq:iquo (k:Int) 32=((k/32:Nat):Int):=m8 (b:=32);have hr:irem (k:Int) 32=((k%32:Nat):Int):=wH (b:=32);have hni:nx .i64 (iquo (k:Int) 32)=((k/32:Nat):Int):=by grind [mV]
 cbv;refine zQ (λh=>om) (λh=>?_);cbv;refine zF (λh=>om) (λh=>?_);cbv;refine cA (aL a oM) ?_;generalize hp:zJ (val a)=p at *;cbv;refine⟨wG oM,?_⟩;refine zF (λh2=>?_) (λh2=>?_)
 ·cbv
  (try dsimp only [zV] at *)
  rw[hni] at h2;refine gJ rfl ?_ rfl;refine⟨yM ?_,lR,trivial⟩;rw[eN (by grind [zH])] at hdp;rw[<-hdp];simp[val,y6,lm]
 ·(try dsimp only [zV] at *)
  rw[hni] at h2;cbv;have hkl:k/32<p.length:=om;refine⟨wG oM,vF (by exact om) (by exact om) (Int.le_refl _),iY p,?_⟩;have hsl:((lm p).take (((lm p).length:Nat):Int).toNat).drop (nx .i64 (iquo (k:Int) 32)).toNat=lm (p.drop (k/32)):=by rw[hni,Zv,Zv,yU (yD _),S8]
  (try dsimp only [zV] at *)
  (rw[hsl];have hbl:(p.drop (k/32)).length<2^40:=by grind);generalize p.drop (k/32)=b at *
  cbv;refine⟨z8 om om,gU om om,?_⟩;cbv;refine z7 (σ:=Nat×List UInt32) (λs=>⟨[(0,nat b),(1,iV k),(6,yX 29 1 b.length),(30,nat b),(31,iV b.length),(32,iV s.1)],[(29,xF 1 (lm s.2))]⟩)
   (λs=>s.1<=b.length/\s.2.length=b.length/\val (s.2.take s.1)+B^s.1*(val (b.drop s.1)/2^(k%32))=val b/2^(k%32)) (λs=>b.length-s.1)
   (0,List.replicate b.length 0) ⟨om,by simp,by simp[val]⟩ (.le ?_ ?_ rfl) ?_
  {cbv;exact⟨lR,lR,zT rfl om,lR,zB (by (try dsimp only [zV] at *) <;> (grind [zH]) <;> omega),lR,trivial⟩}
  ·(cbv;refine⟨zG ?_,trivial⟩;show List.replicate (((lm b).length:Int)).toNat _=_;have:(((lm b).length:Int)).toNat=b.length:=by grind [zH]);rw[this]
   simp[lm,xT,toD]
  intro s hs;obtain⟨h1,h3,h4⟩:=hs;generalize s.1=i at *;generalize s.2=out at *;cbv;refine zF (λh5=>?_) (λh5=>?_)
  ·cbv;refine xJ i (by (grind) <;> (try simp only[zH] at *) <;> omega) om ?_;cbv;have hd:=yO (b.getD i 0);have hd1:=yO (b.getD (i+1) 0);have hks:k%32<32:=vK _ oM;refine⟨zD om om,?_⟩;refine kU (σ:=Unit) (λ_=>⟨[(0,nat b),(1,iV k),(6,yX 29 1 b.length),(7,iV i),(9,.int .u64 (λ_=>(((b.getD i 0).toNat+4294967296*(b.getD (i+1) 0).toNat:Nat):Int))),(30,nat b),(31,iV b.length),(32,iV i)],[(29,xF 1 (lm out))]⟩) (λ_=>True) (λh6=>?_) (λh6=>?_) ?_
   ·cbv;refine⟨zD om om,xJ (i+1) om om ?_⟩;cbv;refine⟨uH oM,(),trivial,.le ?_ ?_ rfl⟩
    ·cbv;refine⟨lR,lR,lR,lR,zB ?_,lR,lR,lR,trivial⟩
     (try dsimp only [zV] at *)
     rw[x9 (n:=(b.getD i 0).toNat) (by grind [B])];exact or2 hd hd1
    {cbv;exact⟨zG rfl,trivial⟩}
   ·cbv;refine⟨(),trivial,.le ?_ ?_ rfl⟩
    ·cbv;refine⟨lR,lR,lR,lR,zB ?_,lR,lR,lR,trivial⟩;have:(b.getD (i+1) 0).toNat=0:=by have:b.length<=i+1:=om;simp_all
     (try dsimp only [zV] at *)
     grind [x9,B]
    {cbv;exact⟨zG rfl,trivial⟩}
   intro _ _;have hY:(b.getD (i+1) 0).toNat=val (b.drop (i+1))%B:=tG _;have hX:=kY (l:=b) (i:=i) om;have hst:=DN (bi:=(b.getD i 0).toNat) hks hd hY;rw[<-hX] at hst;generalize hw:(b.getD i 0).toNat+4294967296*(b.getD (i+1) 0).toNat=w at *;have hw':(b.getD i 0).toNat+B*(b.getD (i+1) 0).toNat=w:=hw;rw[hw'] at hst;cbv;refine⟨wG oM,uH (by exact om),xI om om,gM i (by simp) om ?_⟩;cbv;refine⟨zD om om,(i+1,out.set i (UInt32.ofNat (w/2^(k%32)))),⟨om,by grind,?_⟩,om,.le ?_ ?_ rfl⟩;{show val ((out.set i _).take (i+1))+B^(i+1)*_=_;rw[qC _ om,x7,<-h4,hst,qS,uS,fN,iG]};{cbv;exact⟨lR,lR,lR,lR,lR,zB om,trivial⟩}
   ·(cbv;refine⟨zG ?_,trivial⟩;have e:ishr .u64 (w:Int) (irem (k:Int) 32)=((w/2^(k%32):Nat):Int):=by rw[hr];exact Be oM);show (lm out).set (0+(i:Int).toNat) [.int .u32 (nx .u32 (ishr .u64 (w:Int) (irem (k:Int) 32)))]=_
    rw[e];exact fJ out (by simp) _
  {cbv;have hi:i=b.length:=om;subst hi;refine qR (.trans (.le (ps':=⟨[(62,yX 29 1 b.length)],[(29,xF 1 (lm out))]⟩) ?_ ?_ rfl) (.frz 29 rfl rfl ?_ ?_)) rfl (by refine⟨zR ?_,trivial⟩;grind [zH]) (aL out oM) rfl ?_;{cbv;exact okA};{cbv;exact⟨zG rfl,trivial⟩};{cbv;exact⟨zZ (by grind [zH]),trivial⟩};{exact trivial};cbv;refine gJ rfl ?_ rfl;refine⟨zR ?_,lR,trivial⟩;rw[yU oM,eN (yD _)] at h4;congr 2;rw[<-hdp,<-h4];simp[val]}
def ZQ (n:Nat)(m:Int)(h:m=n):(List.replicate m.toNat (xT [.int .u32 (λ_=>0)]):List (List D))=lm (List.replicate n 0):=by subst h;simp[lm,xT,toD]
theorem eV {l:List UInt32}{i:Nat}(h:i<l.length)(x:UInt32):val ((l.set i x).drop i)=x.toNat+B*val (l.drop (i+1)):=by grind [kY,List.drop_set_of_lt]
def Er (a:List UInt32)(d:Nat)(ha:a.length<2^40)(hd:d<B)(hd0:0<d):zC 302 [nat a,.int .u32 (λ_=>(d:Int))] (.tup [nat (zJ (val a/d)),nat (zJ (val a%d))]):=by
 have hdd:nx .u64 (d:Int)=(d:Int):=x9 (by grind [B]);refine sF Tryz.f302 ?_;cbv;refine⟨z8 om om,gU om om,?_⟩;cbv;refine⟨zD om om,?_⟩;refine z7 (σ:=Nat×Nat×List UInt32) (λs=>⟨[(0,nat a),(1,.int .u32 (λ_=>(d:Int))),(6,yX 11 1 a.length),(7,.int .u64 (λ_=>(s.2.1:Int))),(8,iV ((s.1:Int)-1))],[(11,xF 1 (lm s.2.2))]⟩)
  (λs=>s.1<=a.length/\s.2.1<d/\s.2.2.length=a.length/\val (a.drop s.1)=d*val (s.2.2.drop s.1)+s.2.1) (λs=>s.1)
  (a.length,0,List.replicate a.length 0) ⟨om,hd0,by simp,by simp[val]⟩ (.le ?_ ?_ rfl) ?_
 {cbv;exact⟨lR,lR,zT rfl om,lR,zB (by (try dsimp only [zV] at *) <;> (grind [zH]) <;> omega),trivial⟩};{cbv;exact⟨zG (ZQ a.length _ (by (try dsimp only [zV] at *) <;> (grind [zH]) <;> omega)),trivial⟩};intro s hs;obtain⟨h1,h2,h3,h4⟩:=hs;generalize s.1=n at *;generalize s.2.1=r at *;generalize s.2.2=out at *;cbv;refine zF (λh5=>?_) (λh5=>?_)
 ·(try dsimp only [zV] at *)
  (obtain⟨m,rfl⟩:∃ m,n=m+1:=⟨n-1,by omega⟩;cbv;have hx:=yO (a.getD m 0);refine⟨uH oM,xJ m om om ?_⟩;have hX:=kY (l:=a) (i:=m) om;generalize hxx:(a.getD m 0).toNat=x at *;have hT:ior .u64 (ishl .u64 (r:Int) 32) (nx .u64 (x:Int))=((x+B*r:Nat):Int):=by have:=TS (a:=x) (b:=r) hx (by grind [B]);exact this);have hlt:x+B*r<d*B:=by have:=wQ B (show r+1<=d from h2);rw[qS,kI B d] at this;omega
  (have hq:(x+B*r)/d<B:=by rw[Zy hd0,kI B d];exact hlt);have hdB:d*B<=B*B:=kG B (pK hd)
  (have hr:=vK (x+B*r) hd0;have hdm:=Nat.div_add_mod (x+B*r) d;generalize hqq:(x+B*r)/d=q at *;generalize hrr:(x+B*r)%d=r' at *;have hQ:iquo (ior .u64 (ishl .u64 (r:Int) 32) (nx .u64 (x:Int))) (nx .u64 (d:Int))=(q:Int):=by rw[hT,hdd,m8,hqq]);have hR:irem (ior .u64 (ishl .u64 (r:Int) 32) (nx .u64 (x:Int))) (nx .u64 (d:Int))=(r':Int):=by rw[hT,hdd,wH,hrr]
  cbv;refine⟨wG (by exact om),xI om om,gM m (by exact om) om ?_⟩;cbv;refine⟨wG (by exact om),zD om om,(m,r',out.set m (UInt32.ofNat q)),⟨om,hr,by grind,?_⟩,om,.le ?_ ?_ rfl⟩;{show val (a.drop m)=d*val ((out.set m _).drop m)+r';rw[hX,h4,eV om,x7,kE hq,qS B,qS d,Nat.mul_left_comm B d];omega};{cbv;exact⟨lR,lR,lR,zB hR,zB om,trivial⟩};{cbv;refine⟨zG (fI out (j:=m) ?_ ?_ hq),trivial⟩;{exact om};{show nx .u32 (nx .u64 (iquo (ior .u64 (ishl .u64 (r:Int) 32) (nx .u64 (x:Int))) (nx .u64 (d:Int))))=(q:Int);simp only[B] at hq;grind [x9,gZ]}}
 ·cbv;have hn:n=0:=om;subst hn;refine qR (.trans (.le (ps':=⟨[(7,.int .u64 (λ_=>(r:Int))),(39,yX 11 1 a.length)],[(11,xF 1 (lm out))]⟩) ?_ ?_ rfl) (.frz 11 rfl rfl ?_ ?_)) rfl (by refine⟨zR ?_,trivial⟩;grind [zH]) (aL out oM) rfl ?_;{cbv;exact okA};{cbv;exact⟨zG rfl,trivial⟩};{cbv;exact⟨zZ (by grind [zH]),trivial⟩};{exact trivial};cbv;have hrB:r<B*B:=by grind [B]
  (refine cA (Su r hrB) ?_;cbv;refine gJ rfl ?_ rfl;simp only[wZ] at h4;have e1:val a/d=val out:=(Nat.div_eq_of_lt_le (by grind) (by grind));have e2:val a%d=r:=by rw[h4,Nat.mul_add_mod];exact kE h2);exact⟨zR (by rw[e1]),zR (by rw[e2]),trivial⟩
def rE {pre x post:List UInt32}{i:Nat}{K:List PV->Prop}(j:Nat)(hi:i=pre.length+j)(hj:j<x.length)(hK:K [.int .u32 (λ_=>((x.getD j 0).toNat:Int))]):ElOk 1 (λ_=>lm (pre++(x++post))) (λ_=>i) K:=by refine gM (pre.length+j) hi (by grind) ?_;grind
def oK {rs:List ResultVar}{r:PV}{ps:PS}{l:List PV}{n:Nat}{o:Obj'}(h1:bE ps rs=some l)(h2:les (lU l) (ren id r))(h3:lv r=true)(h4:yN ps.objs n=some o)(h5:bF o=true)(h6:Nat.ble 1000000 n=true):RetOk rs r [(n,o)] [] ps :=
 ⟨ps,l,id,.refl ps,h1,bY h2,h3,⟨⟨by grind [Wd],h5⟩,trivial⟩,rfl,⟨rfl,Nat.le_of_ble_eq_true h6⟩,trivial⟩
def UX {rs:List ResultVar}{r:PV}{ps ps':PS}{l:List PV}{n:Nat}{o:Obj'}(hw:Wk ps ps')(h1:bE ps' rs=some l)(h2:les (lU l) (ren id r))(h3:lv r=true)(h4:yN ps'.objs n=some o)(h5:bF o=true)(h6:Nat.ble 1000000 n=true):RetOk rs r [(n,o)] [] ps :=
 ⟨ps',l,id,hw,h1,bY h2,h3,⟨⟨by grind [Wd],h5⟩,trivial⟩,rfl,⟨rfl,Nat.le_of_ble_eq_true h6⟩,trivial⟩
def Db {v1 v2 u2 q r:Nat}(hr:r<B)(hv:0<v1)(h:¬(B<=q\/r*B+u2<q*v2)):lW v1 v2 u2 q r=q:=by rw[lW,dif_neg oM,if_neg h]
theorem BU {v1 v2 u2 q r:Nat}(hr:r<B)(hv:0<v1)(h:B<=q\/r*B+u2<q*v2)(h2:B<=r+v1):lW v1 v2 u2 q r=q-1:=by rw[lW,dif_neg oM,if_pos h,if_pos h2]
theorem Rj {v1 v2 u2 q r:Nat}(hr:r<B)(hv:0<v1)(h:B<=q\/r*B+u2<q*v2)(h2:¬B<=r+v1):lW v1 v2 u2 q r=lW v1 v2 u2 (q-1) (r+v1):=by rw[lW,dif_neg oM,if_pos h,if_neg h2]
abbrev kx (pre x post:List UInt32):List (Nat×Obj'):=[(1000000,xF 1 (lm (pre++(x++post))))]
def Eo (pre x post v:List UInt32)(n:Nat)(hx:x.length=n+3)(hv:v.length=n+2)(hn:n<2^40)(hp:pre.length<2^40)(hnorm:B<=2*(v.getD (n+1) 0).toNat)(hle:(x.getD (n+2) 0).toNat<=(v.getD (n+1) 0).toNat):Sound 306 [.osl 1000000 1 (λ_=>pre.length) (λ_=>n+3),nat v] (kx pre x post) [] (.int .u64 (λ_=>((lW (v.getD (n+1) 0).toNat (v.getD n 0).toNat (x.getD n 0).toNat (((x.getD (n+2) 0).toNat*B+(x.getD (n+1) 0).toNat)/(v.getD (n+1) 0).toNat) (((x.getD (n+2) 0).toNat*B+(x.getD (n+1) 0).toNat)%(v.getD (n+1) 0).toNat):Nat):Int))) (kx pre x post) []:=by
 refine sF Tryz.f306 ?_;have hu0:=yO (x.getD (n+2) 0);have hu1:=yO (x.getD (n+1) 0);have hu2:=yO (x.getD n 0);have hv1:=yO (v.getD (n+1) 0);have hv2:=yO (v.getD n 0);have hB:B=4294967296:=rfl;generalize hxa:(x.getD (n+2) 0).toNat=xa at *;generalize hxb:(x.getD (n+1) 0).toNat=xb at *;generalize hxc:(x.getD n 0).toNat=xc at *;generalize hva:(v.getD (n+1) 0).toNat=va at *;generalize hvb:(v.getD n 0).toNat=vb at *;have hT:ior .u64 (ishl .u64 (nx .u64 (xa:Int)) 32) (nx .u64 (xb:Int))=((xa*B+xb:Nat):Int):=by rw[x9 (n:=xa) oM,TS hu1 hu0,kI xa,YE];rfl
 have hva0:0<va:=by omega
 have hq0:(xa*B+xb)/va<=B+1:=by
  (have:xa*B+xb<(B+2)*va:=by have h1:=kG B hle;rw[jI,kI B va];omega);have:=(Zy hva0).2 this;omega
 have hr0:(xa*B+xb)%va<B:=bQ (vK _ hva0) hv1;generalize hQ:lW va vb xc ((xa*B+xb)/va) ((xa*B+xb)%va)=Q;have hq':iquo ((xa*B+xb:Nat):Int) (va:Int)=(((xa*B+xb)/va:Nat):Int):=m8;have hr':irem ((xa*B+xb:Nat):Int) (va:Int)=(((xa*B+xb)%va:Nat):Int):=wH;generalize hq0':(xa*B+xb)/va=q0 at *;generalize hr0':(xa*B+xb)%va=r0 at *;generalize (xa*B+xb:Nat)=top at *;have hvn:nx .u64 (va:Int)=(va:Int):=x9 oM;cbv;refine zM 13 (by cbv) ?_;cbv;refine⟨xI om om,rE (n+2) om om ?_⟩;cbv;refine⟨uH oM,zD om om,xI om om,rE (n+1) om om ?_⟩;cbv;refine zM 18 (by cbv) ?_;cbv;refine⟨zD om om,xJ (n+1) om om ?_⟩;cbv;refine⟨wG (by (try dsimp only [zV] at *);grind),zD om om,xJ (n+1) om om ?_⟩;cbv;refine⟨wG (by (try dsimp only [zV] at *);grind),?_⟩;refine z7 (σ:=Nat×Nat) (λs=>⟨[(0,.osl 1000000 1 (λ_=>pre.length) (λ_=>n+3)),(1,nat v),(5,iV (((n+2:Nat):Int))),(7,.int .u64 (λ_=>(s.1:Int))),(8,.int .u64 (λ_=>(s.2:Int)))],kx pre x post⟩)
  (λs=>s.1<=B+1/\s.2<B/\lW va vb xc s.1 s.2=Q) (λs=>B-s.2)
  (q0,r0) ⟨hq0,hr0,hQ⟩ (.le ?_ ?_ rfl) ?_
 ·cbv;refine⟨lR,lR,zB om,zB ?_,zB ?_,trivial⟩
  ·(try dsimp only [zV] at *)
   grind [x9]
  ·(try dsimp only [zV] at *)
   grind
 {cbv;exact⟨zG rfl,trivial⟩};intro s hs;obtain⟨h1,h2,h3⟩:=hs;generalize s.1=q at *;generalize s.2=r at *;have hround:(B<=q\/r*B+xc<q*vb)->0<q:=by grind
 have hq1:0<q->nx .u64 ((q:Int)-1)=((q-1:Nat):Int):=λh=>by grind [uN]
 have hr1:nx .u64 ((r:Int)+(va:Int))=((r+va:Nat):Int):=by grind [uN]
 cbv;refine zM 22 (by cbv) ?_;cbv;have fin:(B<=q\/r*B+xc<q*vb)->∀ (K:Prop),(B<=r+va->Q=q-1->K)->(¬B<=r+va->(lW va vb xc (q-1) (r+va)=Q/\q-1<=B+1/\r+va<B/\B-(r+va)<B-r)->K)->K:=by intro hc K k1 k2;by_cases h4:B<=r+va;{grind [BU]};grind [Rj]
 refine zQ (λh4=>?_) (λh4=>?_)
 ·(have hc:B<=q\/r*B+xc<q*vb:=.inl (by rw[hB];exact om);cbv;refine⟨zD om om,xJ (n+1) om om ?_⟩;have hz:nx .u64 ((r:Int)+nx .u64 (((v.getD (n+1) 0).toNat:Nat):Int))=((r+va:Nat):Int):=by grind);have hz2:=hq1 (hround hc)
  cbv
  (try dsimp only [zV] at *)
  refine fin hc _ (λh6 h7=>?_) (λh6 h7=>?_);{refine zF (λh8=>?_) (λh8=>absurd h8 oM);cbv;exact oK rfl (zB (by grind)) rfl rfl rfl rfl};{refine zF (λh8=>absurd h8 oM) (λh8=>?_);cbv;refine⟨(q-1,r+va),⟨h7.2.1,h7.2.2.1,h7.1⟩,h7.2.2.2,.le ?_ ?_ rfl⟩;{cbv;exact⟨lR,lR,lR,zB hz2,zB hz,trivial⟩};{cbv;exact⟨zG rfl,trivial⟩}}
 ·(cbv;refine⟨zD om om,xJ n om om ?_⟩;cbv;refine⟨uH om,zD om om,xI om om,rE n om om ?_⟩;have hq2:q<B:=by rw[hB];exact om);have hm1:nx .u64 ((q:Int)*nx .u64 (((v.getD n 0).toNat:Nat):Int))=((q*vb:Nat):Int):=by rw[hvb,x9 (n:=vb) oM];have:q*vb<4294967296*4294967296:=Uq oM oM;exact x9 oM
  (have hm2:ior .u64 (ishl .u64 (r:Int) 32) (nx .u64 (((x.getD n 0).toNat:Nat):Int))=((r*B+xc:Nat):Int):=by grind [TS]);cbv
  (try dsimp only [zV] at *)
  refine zF (λh5=>?_) (λh5=>?_)
  ·(have hc:B<=q\/r*B+xc<q*vb:=.inr oM;cbv;refine⟨zD om om,xJ (n+1) om om ?_⟩;have hz:nx .u64 ((r:Int)+nx .u64 (((v.getD (n+1) 0).toNat:Nat):Int))=((r+va:Nat):Int):=by grind);have hz2:=hq1 (hround hc)
   cbv
   (try dsimp only [zV] at *)
   refine fin hc _ (λh6 h7=>?_) (λh6 h7=>?_);{refine zF (λh8=>?_) (λh8=>absurd h8 oM);cbv;exact oK rfl (zB (by grind)) rfl rfl rfl rfl};{refine zF (λh8=>absurd h8 oM) (λh8=>?_);cbv;refine⟨(q-1,r+va),⟨h7.2.1,h7.2.2.1,h7.1⟩,h7.2.2.2,.le ?_ ?_ rfl⟩;{cbv;exact⟨lR,lR,lR,zB hz2,zB hz,trivial⟩};{cbv;exact⟨zG rfl,trivial⟩}}
  ·(have hc:¬(B<=q\/r*B+xc<q*vb):=by omega);have hs:=Db h2 hva0 hc
   cbv;exact oK rfl (zB (by grind)) rfl rfl rfl rfl
def Gd {pre x post:List UInt32}{j:Nat}(h:j<x.length)(w:UInt32):(pre++(x++post)).set (pre.length+j) w=pre++(x.set j w++post):=by grind
def Hw {pre x post:List UInt32}{j w k:Nat}{z:Int}(hk:k=pre.length+j)(h:j<x.length)(hz:z=(w:Int))(hw:w<B):(lm (pre++(x++post))).set k [.int .u32 z]=lm (pre++(x.set j (UInt32.ofNat w)++post)):=by rw[<-Gd h];grind [fI]
def FO {pre x post:List UInt32}{j S k:Nat}(hk:k=pre.length+j)(h:j<x.length):(lm (pre++(x++post))).set k [.int .u32 (nx .u32 ((S:Nat):Int))]=lm (pre++(x.set j (UInt32.ofNat S)++post)):=by rw[<-Gd h];grind [fJ]
def Kb {u lo b:Nat}(hu:u<B)(hlo:lo<=B)(hb:b<2)(hlb:lo+b<=B):∃ w b':Nat,w<B/\b'<2/\u+B*b'=w+lo+b /\ nx .u64 (nx .u64 ((u:Int)-(lo:Int))-(b:Int))=(if b'=0 then (w:Int) else (w:Int)+18446744069414584320):=by simp only[B] at *;by_cases h:u<lo+b;{refine⟨u+4294967296-lo-b,1,by omega,by omega,by omega,?_⟩;simp only[uN];omega};{refine⟨u-lo-b,0,by omega,by omega,by omega,?_⟩;simp only[uN];grind}
def H7 {w b':Nat}(hw:w<B)(hb:b'<2):ishr .u64 (if b'=0 then (w:Int) else (w:Int)+18446744069414584320) 63=(b':Int):=by grind [B,Bf]
def KM {w b':Nat}(hw:w<B):nx .u32 (if b'=0 then (w:Int) else (w:Int)+18446744069414584320)=(w:Int):=by grind [B,gZ]
def SP {P R t s:Nat}(ht:t<P)(hR:R<P)(h:t+P*s=P*B+R):s=B/\t=R:=by rcases Nat.lt_trichotomy s B with h1|h1|h1;{have:=wQ P (show s+1<=B from h1);rw[qS] at this;omega};{subst h1;omega};{have:=wQ P (show B+1<=s from h1);rw[qS] at this;omega}
def Ep (pre x post v:List UInt32)(n q:Nat)(hx:x.length=n+1)(hv:v.length=n)(hn:n<2^40)(hp:pre.length<2^40)(hq:q<B)(hhi:q*val v<=val x+val v):Sound 305 [.osl 1000000 1 (λ_=>pre.length) (λ_=>n+1),nat v,.int .u64 (λ_=>(q:Int))] (kx pre x post) [] (.int .u32 (λ_=>((YB (val x) (val v) q:Nat):Int))) (kx pre (pad (val x-YB (val x) (val v) q*val v) (n+1)) post) []:=by
 refine sF Tryz.f305 ?_;have hB:B=4294967296:=rfl;have hBB:B*B=18446744073709551616:=by decide
 have hV:=x8 v;rw[hv] at hV;have hdig:YB (val x) (val v) q=if q*val v<=val x then q else q-1:=rfl
 generalize hD:YB (val x) (val v) q=D at *;generalize hF:pad (val x-D*val v) (n+1)=F;cbv;refine z7 (σ:=Nat×Nat×Nat×List UInt32) (λs=>⟨[(0,.osl 1000000 1 (λ_=>pre.length) (λ_=>n+1)),(1,nat v),(2,.int .u64 (λ_=>(q:Int))),(7,.int .u64 (λ_=>(s.2.1:Int))),(8,.int .u64 (λ_=>(s.2.2.1:Int))),(15,nat v),(16,iV n),(17,iV s.1)],kx pre s.2.2.2 post⟩)
  (λs=>s.1<=n/\s.2.1<B/\s.2.2.1<2/\s.2.2.2.length=n+1/\s.2.2.2.drop s.1=x.drop s.1/\val (s.2.2.2.take s.1)+q*val (v.take s.1)=val (x.take s.1)+B^s.1*(s.2.1+s.2.2.1)) (λs=>n-s.1)
  (0,0,0,x) ⟨om,w9,by grind,hx,rfl,by simp[val]⟩ (.le ?_ ?_ rfl) ?_
 {cbv;exact⟨lR,lR,lR,lR,lR,lR,zB om,lR,trivial⟩};{cbv;exact⟨zG rfl,trivial⟩};intro s hs;obtain⟨h1,h2,h3,h4,h5,h6⟩:=hs;generalize s.1=i at *;generalize s.2.1=c at *;generalize s.2.2.1=b at *;generalize s.2.2.2=y at *;cbv;refine zF (λh7=>?_) (λh7=>?_)
 ·(have hin:i<n:=om;have hyx:y.getD i 0=x.getD i 0:=by have:=congrArg (λl=>l.getD 0 0) h5;grind);have hd:=yO (v.getD i 0);have hu:=yO (x.getD i 0);have hCl:c+q*(v.getD i 0).toNat<B*B:=by have h8:q*(v.getD i 0).toNat<=(B-1)*(B-1):=Nat.mul_le_mul oM oM;grind
  (obtain⟨w,b',hw,hb',hwe,hz⟩:=Kb (u:=(x.getD i 0).toNat) (lo:=(c+q*(v.getD i 0).toNat)%B) (b:=b) hu (pK (vK _ w9)) h3 (by grind);have hC:nx .u64 ((c:Int)+nx .u64 ((q:Int)*nx .u64 (((v.getD i 0).toNat:Nat):Int)))=((c+q*(v.getD i 0).toNat:Nat):Int):=by rw[x9 (n:=(v.getD i 0).toNat) oM];have e1:nx .u64 ((q:Int)*(((v.getD i 0).toNat:Nat):Int))=((q*(v.getD i 0).toNat:Nat):Int):=x9 (n:=q*(v.getD i 0).toNat) oM;grind [x9]);have hlo:nx .u64 (nx .u32 ((c+q*(v.getD i 0).toNat:Nat):Int))=(((c+q*(v.getD i 0).toNat)%B:Nat):Int):=by
   (rw[gZ,hB];have:(((c+q*(v.getD i 0).toNat:Nat):Int)%4294967296)=(((c+q*(v.getD i 0).toNat)%4294967296:Nat):Int):=by omega);rw[this]
   exact x9 oM
  (have hui:nx .u64 (((y.getD i 0).toNat:Nat):Int)=(((x.getD i 0).toNat:Nat):Int):=by rw[hyx];exact x9 oM);have hZ:nx .u64 (nx .u64 (nx .u64 (((y.getD i 0).toNat:Nat):Int)-nx .u64 (nx .u32 (nx .u64 ((c:Int)+nx .u64 ((q:Int)*nx .u64 (((v.getD i 0).toNat:Nat):Int))))))-(b:Int))=(if b'=0 then (w:Int) else (w:Int)+18446744069414584320):=by grind
  cbv;refine xJ i (by (grind) <;> (try simp only[zH] at *) <;> omega) om ?_;cbv;refine⟨xI om om,rE i om om ?_⟩;cbv;refine⟨xI om om,rE i om om ?_⟩;cbv;refine⟨uH oM,uH oM,zD om om,(i+1,(c+q*(v.getD i 0).toNat)/B,b',y.set i (UInt32.ofNat w)),⟨om,?_,hb',by grind,?_,?_⟩,om,.le ?_ ?_ rfl⟩;{grind};{show (y.set i _).drop (i+1)=x.drop (i+1);rw[List.drop_set_of_lt oM,<-Yg,<-Yg,h5]};{show val ((y.set i _).take (i+1))+q*val (v.take (i+1))=val (x.take (i+1))+B^(i+1)*((c+q*(v.getD i 0).toNat)/B+b');rw[qC _ om,z4 v,z4 x,x7,kE hw,uS];grind [Nat.mod_add_div]}
  ·cbv;refine⟨lR,lR,lR,zB ?_,zB ?_,lR,lR,zB om,trivial⟩
   ·(try dsimp only [zV] at *)
    rw[hC];exact s8 _
   ·(try dsimp only [zV] at *)
    rw[hZ];exact H7 hw hb'
  ·cbv;have hset:(lm (pre++(y++post))).set (pre.length+(i:Int).toNat) [.int .u32 (nx .u32 (nx .u64 (nx .u64 (nx .u64 (((y.getD i 0).toNat:Nat):Int)-nx .u64 (nx .u32 (nx .u64 ((c:Int)+nx .u64 ((q:Int)*nx .u64 (((v.getD i 0).toNat:Nat):Int))))))-(b:Int))))]=lm (pre++(y.set i (UInt32.ofNat w)++post)) :=
    Hw (by simp) oM (by rw[hZ];exact KM hw) hw
   exact⟨zG hset,trivial⟩
 ·have hin:i=n:=om;subst hin;have hyx:y.getD i 0=x.getD i 0:=by have:=congrArg (λl=>l.getD 0 0) h5;grind
  (have hu:=yO (x.getD i 0);obtain⟨w,b',hw,hb',hwe,hz⟩:=Kb (u:=(x.getD i 0).toNat) (lo:=c) (b:=b) hu (pK h2) h3 oM;have hui:nx .u64 (((y.getD i 0).toNat:Nat):Int)=(((x.getD i 0).toNat:Nat):Int):=by rw[hyx];exact x9 oM);have hZ:nx .u64 (nx .u64 (nx .u64 (((y.getD i 0).toNat:Nat):Int)-(c:Int))-(b:Int))=(if b'=0 then (w:Int) else (w:Int)+18446744069414584320):=by grind
  have hTB:=H7 hw hb';have hLL:=KM (w:=w) (b':=b') hw;generalize hzz:(if b'=0 then (w:Int) else (w:Int)+18446744069414584320)=zz at *;have hi40:i<2^40:=hn;cbv;refine⟨xI om om,rE i om om ?_⟩;cbv;refine⟨xI om om,rE i om om ?_⟩;have hset:(lm (pre++(y++post))).set (pre.length+(((lm v).length:Nat):Int).toNat) [.int .u32 (nx .u32 (nx .u64 (nx .u64 (nx .u64 (((y.getD i 0).toNat:Nat):Int)-(c:Int))-(b:Int))))]=lm (pre++(y.set i (UInt32.ofNat w)++post)) :=
   Hw (pre:=pre) (x:=y) (post:=post) (j:=i) (by grind [zH]) oM (by grind) hw
  (have hlen1:(y.set i (UInt32.ofNat w)).length=i+1:=by grind);have hval1:val (y.set i (UInt32.ofNat w))+q*val v=val x+B^(i+1)*b':=by have e1:=qC y (n:=i) oM (UInt32.ofNat w);have e2:=z4 x i;grind [x7,Nat.mod_eq_of_lt]
  have hlt1:=x8 (y.set i (UInt32.ofNat w));rw[hlen1] at hlt1;generalize hy1:y.set i (UInt32.ofNat w)=y1 at *;cbv;refine⟨uH oM,?_⟩;refine zF (λh8=>?_) (λh8=>?_)
  ·(have hb0:b'=0:=by (try dsimp only [zV] at *);grind);subst hb0
   (have hle:q*val v<=val x:=by omega);rw[if_pos hle] at hdig
   (have hy:y1=F:=by grind [Hn]);cbv
   refine UX (.le (ps':=⟨[(6,.int .u32 (λ_=>(D:Int)))],kx pre F post⟩) ?_ ?_ rfl) rfl (lR) rfl rfl rfl rfl;{cbv;refine⟨zB ?_,trivial⟩;grind [gZ]};{cbv;refine⟨zG ?_,trivial⟩;rw[<-hy];exact hset}
  ·(have hb1:b'=1:=by (try dsimp only [zV] at *);grind);subst hb1
   (rw[tV] at hval1;have hgt:¬q*val v<=val x:=by omega);rw[if_neg hgt] at hdig
   have hq1:0<q:=by
    rcases WY q with e|e
    all_goals simp_all
   cbv;refine z7 (σ:=Nat×Nat×List UInt32) (λs=>⟨[(0,.osl 1000000 1 (λ_=>pre.length) (λ_=>i+1)),(1,nat v),(2,.int .u64 (λ_=>(q:Int))),(7,.int .u64 (λ_=>(s.2.1:Int))),(70,nat v),(71,iV i),(72,iV s.1)],kx pre s.2.2 post⟩)
    (λs=>s.1<=i/\s.2.1<2/\s.2.2.length=i+1/\s.2.2.drop s.1=y1.drop s.1/\val (s.2.2.take s.1)+B^s.1*s.2.1=val (y1.take s.1)+val (v.take s.1)) (λs=>i-s.1)
    (0,0,y1) ⟨om,by grind,hlen1,rfl,by simp[val]⟩ (.le ?_ ?_ rfl) ?_
   {cbv;exact⟨lR,lR,lR,lR,lR,zB (by rw[zH,hv]),lR,trivial⟩};{cbv;exact⟨zG hset,trivial⟩};intro s hs;obtain⟨k1,k2,k3,k4,k5⟩:=hs;generalize s.1=m at *;generalize s.2.1=e at *;generalize s.2.2=t at *;have htx:t.getD m 0=y1.getD m 0:=by have:=congrArg (λl=>l.getD 0 0) k4;grind
   cbv;refine zF (λk6=>?_) (λk6=>?_)
   ·(have hin:m<i:=om;have hd:=yO (v.getD m 0);have ht:=yO (y1.getD m 0);have hS:nx .u64 ((e:Int)+nx .u64 (nx .u64 (((t.getD m 0).toNat:Nat):Int)+nx .u64 (((v.getD m 0).toNat:Nat):Int)))=((e+((y1.getD m 0).toNat+(v.getD m 0).toNat):Nat):Int):=by grind [uN]);cbv
    refine xJ m (by (grind) <;> (try simp only[zH] at *) <;> omega) om ?_;cbv;refine⟨xI om om,rE m om om ?_⟩;cbv;refine⟨xI om om,rE m om om ?_⟩;cbv;refine⟨uH oM,zD om om,(m+1,(e+((y1.getD m 0).toNat+(v.getD m 0).toNat))/B,t.set m (UInt32.ofNat (e+((y1.getD m 0).toNat+(v.getD m 0).toNat)))),⟨om,?_,by grind,?_,?_⟩,om,.le ?_ ?_ rfl⟩;{grind};{show (t.set m _).drop (m+1)=y1.drop (m+1);rw[List.drop_set_of_lt oM,<-Yg,<-Yg,k4]};{show val ((t.set m _).take (m+1))+B^(m+1)*((e+((y1.getD m 0).toNat+(v.getD m 0).toNat))/B)=val (y1.take (m+1))+val (v.take (m+1));rw[qC _ om,z4 v,z4 y1,x7,uS];have hdm:=WZ (e+((y1.getD m 0).toNat+(v.getD m 0).toNat)) B;generalize (e+((y1.getD m 0).toNat+(v.getD m 0).toNat))%B=lo at *;generalize (e+((y1.getD m 0).toNat+(v.getD m 0).toNat))/B=hi at *;grind}
    ·cbv;refine⟨lR,lR,lR,zB ?_,lR,lR,zB om,trivial⟩
     (try dsimp only [zV] at *)
     rw[hS];exact s8 _
    ·(cbv;have hset2:(lm (pre++(t++post))).set (pre.length+(m:Int).toNat) [.int .u32 (nx .u32 (nx .u64 ((e:Int)+nx .u64 (nx .u64 (((t.getD m 0).toNat:Nat):Int)+nx .u64 (((v.getD m 0).toNat:Nat):Int)))))]=lm (pre++(t.set m (UInt32.ofNat (e+((y1.getD m 0).toNat+(v.getD m 0).toNat)))++post)):=by rw[hS];exact FO (by simp) oM);exact⟨zG hset2,trivial⟩
   ·(have hin:m=i:=om;subst hin;cbv;refine⟨xI om om,rE m om om ?_⟩;cbv;refine⟨xI om om,rE m om om ?_⟩;have hyt:=z4 y1 m;rw[yU (Nat.le_of_eq hlen1)] at hyt;rw[yU (Nat.le_of_eq hv)] at k5;have htl:=w6 t m;have hR:val x+val v-q*val v<B^m:=by omega);have hfin:=SP (P:=B^m) (s:=e+(y1.getD m 0).toNat) htl hR (by rw[qS];rw[uS] at hval1;omega)
    have ht1:=yO (y1.getD m 0);have hset3:(lm (pre++(t++post))).set (pre.length+(((lm v).length:Nat):Int).toNat) [.int .u32 (nx .u32 ((((t.getD m 0).toNat:Nat):Int)+nx .u32 (e:Int)))]=lm (pre++(t.set m (UInt32.ofNat 0)++post)) :=
     Hw (w:=0) (by grind [zH]) oM (by grind [gZ]) w9
    (have hWV:val v<=q*val v:=Nat.le_mul_of_pos_left _ hq1;have hDv:D*val v=q*val v-val v:=by grind);have hF2:t.set m (UInt32.ofNat 0)=F:=by rw[<-hF];refine Hn (by grind) ?_;have e1:=qC t (n:=m) oM (UInt32.ofNat 0);rw[yU (by simp;omega)] at e1;rw[e1,hfin.2,hDv];simp only[x7,Nat.zero_mod,Nat.mul_zero,Vw];omega
    cbv;refine UX (.le (ps':=⟨[(6,.int .u32 (λ_=>(D:Int)))],kx pre F post⟩) ?_ ?_ rfl) rfl (lR) rfl rfl rfl rfl;{cbv;refine⟨zB ?_,trivial⟩;rw[hdig];show nx .u32 (nx .u64 ((q:Int)-1))=((q-1:Nat):Int);simp only[gZ,uN];omega};{cbv;refine⟨zG ?_,trivial⟩;rw[<-hF2];exact hset3}
end Go.Proofs.YtaeaffgjdcigoaaGreat
