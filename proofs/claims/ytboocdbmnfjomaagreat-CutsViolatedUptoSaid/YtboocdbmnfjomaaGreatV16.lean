/- A part of the proof: NtE, NtF, NtG, NtH. -/
import Derived.Test.YtboocdbmnfjomaaGreatV14
import Derived.Test.YtboocdbmnfjomaaGreatV15
set_option linter.all false
namespace Go.Proofs.YtboocdbmnfjomaaGreat
open Go
set_option maxRecDepth 100000
def U6 {a b:Nat}(ha:a<4294967296)(hb:b<4294967296):ior .u32 (a:Int) (b:Int)=((a ||| b:Nat):Int):=by
 unfold ior;have h1:a ||| b<2^32:=Z4 ha hb;have key:(BitVec.ofInt 32 (a:Int) ||| BitVec.ofInt 32 (b:Int)).toNat=a ||| b:=by grind
 show IntKind.u32.wrap ((BitVec.ofInt 32 (a:Int) ||| BitVec.ofInt 32 (b:Int)).toNat:Int)=_;rw[key];have:=gV ((a ||| b:Nat):Int);grind [nx]
def pW {a k c:Nat}(ha:a<2^k):a ||| (2^k*c)=a+2^k*c:=by rw[Nat.or_comm,Yq,Nat.two_pow_add_eq_or_of_lt ha]
theorem pD {a k:Nat}(hk:k<64)(h:a*2^k<18446744073709551616):ishl .u64 (a:Int) (k:Int)=((a*2^k:Nat):Int):=by unfold ishl;have:=uM ((a*2^k:Nat):Int);grind [nx,IntKind.bits]
def Tw {els:List (List D)}{l:List UInt32}(he:els=lm l){i:Nat}{K:List PV->Prop}(j:Nat)(hk:i=j)(hj:j<l.length)(hK:K [.int .u32 (λ_=>((l.getD j 0).toNat:Int))]):ElOk 1 (λ_=>els) (λ_=>i) K:=by subst he;exact gI j hk hj hK
def MP (a:List UInt32)(k:Nat)(ha:a.length<2^40)(hk:k<32):Sound 233 [nat a,iV k] [] [] (zT 12 1 (a.length+1)) [] [(12,zW 1 (lm (pad (val a*2^k) (a.length+1))))]:=by
 refine sF Tryz.f233 ?_;cbv;refine⟨zE om om,zV om om,uU om om,?_⟩;cbv;refine zY (σ:=Nat×List UInt32) (λs=>⟨[(0,nat a),(1,iV k),(5,zT 12 1 (a.length+1)),(13,nat a),(14,iV a.length),(15,iV s.1)],[(12,zW 1 (lm s.2))]⟩)
  (λs=>s.1<=a.length/\s.2.length=a.length+1/\val s.2=val (a.take s.1)*2^k/\(s.2.getD s.1 0).toNat<2^k/\∀ j,s.1<j->s.2.getD j 0=0) (λs=>a.length-s.1)
  (0,List.replicate (a.length+1) 0) ⟨om,by simp,by simp[val,fL],by simp;grind,λj _=>by grind⟩ (.le ?_ ?_ rfl) ?_
 {cbv;exact⟨lR,lR,zR rfl om,lR,zF (by (try dsimp only [zS] at *) <;> (grind [zJ]) <;> omega),lR,trivial⟩}
 ·(cbv;refine⟨zC ?_,trivial⟩;show List.replicate (((lm a).length:Int)+1).toNat _=_;have:(((lm a).length:Int)+1).toNat=a.length+1:=by grind [zJ]);rw[this]
  simp[lm,y7,toD]
 intro s hs;obtain⟨h1,h2,h3,h3',h4⟩:=hs;generalize s.1=i at *;generalize s.2=out at *;cbv;refine zG (λh5=>?_) (λh5=>?_)
 ·(cbv;refine xM i (by (grind) <;> (try simp only[zJ] at *) <;> omega) om ?_;cbv;refine⟨uD om,z9 om om,gI i (by simp) om ?_⟩;cbv;refine⟨z9 om om,gI i (by simp) om ?_⟩;cbv;have hd:=yT (a.getD i 0);have ho:=yT (out.getD i 0);generalize hdd:(a.getD i 0).toNat=d at *;generalize hoo:(out.getD i 0).toNat=o at *;have hB:B=4294967296:=rfl;have hx:d*2^k<4294967296*4294967296:=Z3 oM (bA oM hk);have hT:ishl .u64 (nx .u64 (d:Int)) (k:Int)=((d*2^k:Nat):Int):=by grind [x5,pD]);have hmod:∃ c,(d*2^k)%B=2^k*c:=by
   (have hB2:B=2^k*2^(32-k):=by rw[<-jS];grind);rw[hB2,jI d,Nat.mul_mod_mul_left]
   grind
  (obtain⟨e,he⟩:=hmod;have hml:(d*2^k)%B<B:=uQ _ vY;have hw:o+(d*2^k)%B<B:=by rw[he,<-pW h3'];exact Z4 (n:=32) ho oM);have hW:ior .u32 (o:Int) (nx .u32 (ishl .u64 (nx .u64 (d:Int)) (k:Int)))=((o+(d*2^k)%B:Nat):Int):=by
   (have h8:nx .u32 ((d*2^k:Nat):Int)=(((d*2^k)%B:Nat):Int):=by grind [gV]);rw[hT,h8,U6 ho hml,he,pW h3']
  (have hset1:=s8 out (j:=i) om (UInt32.ofNat (o+(d*2^k)%B));have hels:(lm out).set (0+(i:Int).toNat) [.int .u32 (ior .u32 (o:Int) (nx .u32 (ishl .u64 (nx .u64 (d:Int)) (k:Int))))]=lm (out.set i (UInt32.ofNat (o+(d*2^k)%B))):=by rw[hW];exact fT out (by simp) rfl hw);have hlen1:(out.set i (UInt32.ofNat (o+(d*2^k)%B))).length=a.length+1:=by grind
  (have hi1:0+((i:Int)+1).toNat=i+1:=by omega);generalize hout1:out.set i (UInt32.ofNat (o+(d*2^k)%B))=out1 at *
  (refine⟨zE om om,uD oM,z9 om om,Tw hels (i+1) hi1 om ?_⟩;cbv;have hz1:out1.getD (i+1) 0=0:=by grind [p9]);have hset2:=s8 out1 (j:=i+1) om (UInt32.ofNat (d*2^k/B))
  (have hq:d*2^k/B<2^k:=by rw[Zi vY,jI];exact Nat.mul_lt_mul_of_pos_left hd (QK oM));have hqB:d*2^k/B<B:=gC hq (show 2^k<2^32 from bA oM hk);refine⟨zE om om,(i+1,out1.set (i+1) (UInt32.ofNat (d*2^k/B))),⟨om,by grind,?_,?_,?_⟩,om,.le ?_ ?_ rfl⟩
  ·(show val (out1.set (i+1) _)=val (a.take (i+1))*2^k;rw[z7 a,hdd,jK,<-h3,gM];rw[hz1,xX,kL hqB] at hset2;rw[xX,kL hw] at hset1;have e1:B^i*((d*2^k)%B)+B^(i+1)*(d*2^k/B)=B^i*(d*2^k):=by rw[uO,gM,<-kP,WU]);grind
  ·(show ((out1.set (i+1) _).getD (i+1) 0).toNat<2^k;have:(out1.set (i+1) (UInt32.ofNat (d*2^k/B))).getD (i+1) 0=UInt32.ofNat (d*2^k/B):=by have:i+1<out1.length:=om;grind);grind [xX]
  {grind [p9]};{cbv;exact⟨lR,lR,lR,lR,lR,zF om,trivial⟩};{cbv;refine⟨zC ?_,trivial⟩;show ((lm out).set (0+(i:Int).toNat) [.int .u32 (ior .u32 (o:Int) (nx .u32 (ishl .u64 (nx .u64 (d:Int)) (k:Int))))]).set (0+((i:Int)+1).toNat) [.int .u32 (nx .u32 (ishr .u64 (ishl .u64 (nx .u64 (d:Int)) (k:Int)) 32))]=_;rw[hels,hT,sN];exact fW out1 hi1 _}
 {cbv;have hip:i=a.length:=om;subst hip;rw[yU (yQ _)] at h3;refine⟨⟨_,_,id,.refl _,rfl,cO (lR),rfl,?_,rfl,trivial⟩⟩;exact⟨⟨by rw[J5 h2 h3];rfl,rfl⟩,trivial⟩}
def QY {f : FuncId} {fn : Func} (hf : Pg.funcs[f]? = some fn) (hb : fn.body.isSome = true) (hname : (fn.name == "runtime.NumGoroutine") = false) {k k' : IntKind} {x z : Int} (h:∀ w,Calls Pg f #[.int k x] w λe w'=>e=.returned (.int k' z)/\w'=w):zH f [.int k (λ_=>x)] (.int k' (λ_=>z)) where
 isf vals w:=by
  (obtain⟨c,hc⟩:=Jv.1 hb;have hn : ¬ fn.name = "runtime.NumGoroutine" := by grind);simp[callFunc,hf,hn,hc]
 go w S β vals hbnd hobj hsz hrep:=by
  have h0:=vO (hrep 0 (by simp));have hv:vals=#[.int k x]:=by
   apply Array.ext;{omega}
   ·(intro i h1 h2;have:i=0:=by grind);simp_all
  subst hv;refine (h w).mono ?_;rintro e w' ⟨rfl,rfl⟩;exact⟨_,S,β,rfl,⟨yQ _,rfl,rfl,rfl,λ_ _ _=>rfl,λb vs T h=>⟨vs,h,rfl⟩,hbnd,λ_ _ _ h=>h,λ_ _ _ _ h=>h⟩,.c rfl (.int _ _),hobj,rfl,λ_ _ h=>by simp at h,λn o b h=>by simp at h⟩
def Nj:Pg.funcs[225]?=some Tryz.f225:=by rw[vI];rfl
def MR (x:Nat)(hx:x<4294967296):zH 225 [.int .u32 (λ_=>(x:Int))] (iV ((Lib.bitLen x:Int))):=by refine QY Nj rfl rfl λw=>?_;grind [vI,Na]
theorem cX {x:Nat}(hx:x<4294967296):Lib.bitLen x<=32:=Lib.bitLen_le x 32 oM oM
def NS (x:Nat)(hx:x<4294967296):zH 232 [.int .u32 (λ_=>(x:Int))] (iV (32-(Lib.bitLen x:Int))):=by refine sF Tryz.f232 ?_;have:=cX hx;cbv;refine cA (MR x hx) ?_;cbv;refine⟨zE om om,?_⟩;exact jL rfl (lR) rfl
def gL (n:Nat):Nat:=if n=0 then 0 else 32*((zL n).length-1)+Lib.bitLen ((zL n).getD ((zL n).length-1) 0).toNat
def WM {x:Nat}(h:x≠0)(hx:x<4294967296):0<Lib.bitLen x:=by grind [Lib.bitLen_half]
def Pe {n:Nat}(h:n≠0):((zL n).getD ((zL n).length-1) 0).toNat≠0:=by have h1:=rI n;rw[tJ (λe=>h (wA.1 e))] at h1;intro e;have:(zL n).getD ((zL n).length-1) 0=0:=Zf.1 e;grind
theorem n8 {n:Nat}:gL n=0↔n=0:=by unfold gL;split;{simp_all};{rename_i h;have:=WM (Pe h) (yT _);omega}
def BT {n:Nat}:gL n<=32*(zL n).length:=by
 unfold gL;split;{omega}
 ·(rename_i h;have h1:=cX (x:=((zL n).getD ((zL n).length-1) 0).toNat) (yT _);have:0<(zL n).length:=by rcases tQ (zL n).length with e|e;exact absurd (wA.1 (gO e)) h;exact e);omega
def MW (l:List UInt32)(hl:l.length<2^40):zH 186 [nat l] (iV ((gL (val l):Int))):=by
 refine sF Tryz.f186 ?_;have hl':=xR (z8 l) hl;cbv;refine cA (aB l oM) ?_;cbv;refine zG (λh=>?_) (λh=>?_);{cbv;refine jL rfl ?_ rfl;have:val l=0:=wA.1 (gO om);exact zF (by grind [n8])}
 ·(cbv;have h0:val l≠0:=λe=>h (by rw[e,yV];rfl);have hp:0<(zL (val l)).length:=om;refine⟨zE om om,zE om om,zE om om,xM ((zL (val l)).length-1) om om ?_⟩;cbv;have h3:=cX (x:=((zL (val l)).getD ((zL (val l)).length-1) 0).toNat) (yT _);have h5:gL (val l)=32*((zL (val l)).length-1)+Lib.bitLen ((zL (val l)).getD ((zL (val l)).length-1) 0).toNat:=by rw[gL,if_neg h0]);refine cA (MR ((zL (val l)).getD ((zL (val l)).length-1) 0).toNat (yT _)) ?_
  generalize Lib.bitLen ((zL (val l)).getD ((zL (val l)).length-1) 0).toNat=t at *;cbv;refine⟨zE om om,?_⟩;refine jL rfl ?_ rfl;exact zF (by rw[h5];(try dsimp only [zS] at *);grind [zJ])
theorem KD {a b:Nat}(ha:a<18446744073709551616)(hb:b<18446744073709551616):ior .u64 (a:Int) (b:Int)=((a ||| b:Nat):Int):=by
 unfold ior;have h1:a ||| b<2^64:=Z4 ha hb;have key:(BitVec.ofInt 64 (a:Int) ||| BitVec.ofInt 64 (b:Int)).toNat=a ||| b:=by grind
 show IntKind.u64.wrap ((BitVec.ofInt 64 (a:Int) ||| BitVec.ofInt 64 (b:Int)).toNat:Int)=_;rw[key];have:=uM ((a ||| b:Nat):Int);grind [nx]
theorem or2 {a b:Nat}(ha:a<4294967296)(hb:b<4294967296):ior .u64 (a:Int) (ishl .u64 (nx .u64 (b:Int)) 32)=((a+4294967296*b:Nat):Int):=by have h1:=pD (a:=b) (k:=32) oM oM;rw[x5 oM];show ior .u64 (a:Int) (ishl .u64 (b:Int) ((32:Nat):Int))=_;rw[h1,KD oM oM,jI b,pW (k:=32) ha]
theorem P6 {a b:Nat}(ha:a<4294967296)(hb:b<4294967296):ior .u64 (ishl .u64 (b:Int) 32) (nx .u64 (a:Int))=((a+4294967296*b:Nat):Int):=by have h1:=pD (a:=b) (k:=32) oM oM;rw[x5 oM];show ior .u64 (ishl .u64 (b:Int) ((32:Nat):Int)) (a:Int)=_;rw[h1,KD oM oM,jI b,Nat.or_comm,pW (k:=32) ha]
def CM {n:Nat}:(zL n).length<=2↔n<B*B:=by constructor;{intro h;have h1:=xZ (zL n);rw[zQ] at h1;have:=c8 vY h;grind};{intro h;exact yL (by grind)}
def MQ (l:List UInt32)(hl:l.length<2^40):zH 229 [nat l] (.tup [.int .u64 (λ_=>((if val l<B*B then val l else 0:Nat):Int)),zM (decide (val l<B*B))]):=by
 refine sF Tryz.f229 ?_;have hl':=xR (z8 l) hl;cbv;refine cA (aB l oM) ?_;cbv;refine zG (λh=>?_) (λh=>?_)
 ·(cbv;have h1:¬val l<B*B:=λh1=>by have:=CM.2 h1;(try dsimp only [zS] at *);grind [zJ]);refine jL rfl ?_ rfl
  exact⟨zF (by grind),zO (decide_eq_false h1),trivial⟩
 ·have h2:(zL (val l)).length<=2:=om;have h1:val l<B*B:=CM.1 h2;have hv:=zQ (val l);generalize zL (val l)=p at *;cbv;refine zY (σ:=Nat) (λs=>⟨[(0,nat p),(4,.int .u64 (λ_=>(val (p.take s):Int))),(12,nat p),(13,iV p.length),(14,iV s)],[]⟩)
   (λs=>s<=p.length) (λs=>p.length-s) 0 om (.le ?_ trivial rfl) ?_
  {cbv;exact⟨lR,lR,lR,zF (by (try dsimp only [zS] at *) <;> (grind [zJ]) <;> omega),lR,trivial⟩};intro i hi;cbv;refine zG (λh5=>?_) (λh5=>?_)
  ·cbv;refine xM i (by (grind) <;> (try simp only[zJ] at *) <;> omega) om ?_;cbv;refine⟨zE om om,uD om,zE om om,i+1,om,om,.le ?_ trivial rfl⟩;cbv;have hd:=yT (p.getD i 0);have hv1:=wY p i;have hv2:=z7 p i;refine⟨lR,zF ?_,lR,lR,zF om,trivial⟩;have hi2:i=0\/i=1:=om;simp only[B] at hd;rcases hi2 with rfl|rfl
   ·(rw[hv2];simp only[val,QJ,Nat.pow_zero,Nat.one_mul];have e:=or2 (a:=0) (b:=0) oM oM;have h9:ishl .u64 (nx .u64 ((p.getD 0 0).toNat:Int)) (32*((0:Nat):Int))=((p.getD 0 0).toNat:Int):=by grind [pD,x5]);grind [KD]
   {rw[hv2];rw[Nat.pow_one] at hv1 ⊢;have:=or2 (a:=val (p.take 1)) (b:=(p.getD 1 0).toNat) hv1 oM;show ior .u64 (val (p.take 1):Int) (ishl .u64 (nx .u64 ((p.getD 1 0).toNat:Int)) 32)=_;rw[this];rfl}
  {cbv;refine jL rfl ?_ rfl;have:i=p.length:=om;subst this;rw[yU (yQ _)];exact⟨zF (by grind),yN (decide_eq_true h1),trivial⟩}
def Dy {bi b1 Y s:Nat}(hs:s<32)(hb:bi<B)(h1:b1=Y%B):(bi+B*Y)/2^s=((bi+B*b1)/2^s)%B+B*(Y/2^s):=by
 have hP:0<2^s:=eC s;have hB:B=2^s*2^(32-s):=by
  (rw[<-jS];have:s+(32-s)=32:=by omega);rw[this];rfl
 have key:∀ y,(bi+B*y)/2^s=(bi+B*(y%2^s))/2^s+B*(y/2^s):=by
  (intro y;have e:bi+B*y=(bi+B*(y%2^s))+2^s*(B*(y/2^s)):=by grind [Nat.mod_add_div]);rw[e,T8 _ _ hP]
 have hmod:b1%2^s=Y%2^s:=by simp_all
 have hlt:(bi+B*(Y%2^s))/2^s<B:=by rw[Zi hP];have h2:=uQ Y hP;grind [B]
 grind [Nat.add_mul_mod_self_left,Nat.mod_eq_of_lt]
def CU {a k:Nat}(hk:k<=64):ishr .u64 (a:Int) (k:Int)=((a/2^k:Nat):Int):=by grind [ishr,IntKind.bits]
theorem dM {a b:Nat}:irem (a:Int) (b:Int)=((a%b:Nat):Int):=by grind [irem]
def oT {a b:Nat}:iquo (a:Int) (b:Int)=((a/b:Nat):Int):=by grind [iquo]
def pQ {l:List UInt32}(j:Nat):(l.getD j 0).toNat=val (l.drop j)%B:=by rcases uG j l.length with h|h;{rw[jD h,Aj,kL (yT _)]};{rw[i9 h];simp[rM h,val]}
def Vg (n k:Nat):val ((zL n).drop (k/32))/2^(k%32)=n/2^k:=by
 have e:val ((zL n).drop (k/32))=n/B^(k/32):=by rcases uG (zL n).length (k/32) with h|h;{rw[i9 oM];have h1:=xZ (zL n);rw[zQ] at h1;have:=c8 vY (tP h);rw[Jt oM];rfl};{have h1:=eJ (l:=zL n) (k/32) h;rw[zQ] at h1;have h2:=wY (zL n) (k/32);grind [Nat.add_mul_div_left,Nat.div_eq_of_lt]}
 rw[e,Nat.div_div_eq_div_mul];congr 1;show (2^32)^(k/32)*2^(k%32)=2^k;rw[<-i8,<-jS];grind
theorem XH {z:Int}(h1:-9223372036854775808<=z)(h2:z<9223372036854775808):nx .i64 z=z:=by grind [nx,IntKind.wrap,IntKind.signed,IntKind.bits]
def NP (a:List UInt32)(k:Nat)(ha:a.length<2^40)(hk:k<=1048576):zH 236 [nat a,iV k] (.tup [nat (zL (val a/2^k)),iV 0]):=by
 refine sF Tryz.f236 ?_;have ha':=xR (z8 a) ha;have hdp:=Vg (val a) k;have hq:iquo (k:Int) 32=((k/32:Nat):Int):=oT (b:=32);have hr:irem (k:Int) 32=((k%32:Nat):Int):=dM (b:=32);have hni:nx .i64 (iquo (k:Int) 32)=((k/32:Nat):Int):=by grind [XH]
 cbv;refine zX (λh=>om) (λh=>?_);cbv;refine zG (λh=>om) (λh=>?_);cbv;refine cA (aB a oM) ?_;generalize hp:zL (val a)=p at *;cbv;refine⟨kN oM,?_⟩;refine zG (λh2=>?_) (λh2=>?_)
 ·cbv
  (try dsimp only [zS] at *)
  rw[hni] at h2;refine jL rfl ?_ rfl;refine⟨xC ?_,lR,trivial⟩;rw[i9 (by grind [zJ])] at hdp;rw[<-hdp];simp[val,yV,lm]
 ·(try dsimp only [zS] at *)
  rw[hni] at h2;cbv;have hkl:k/32<p.length:=om;refine⟨kN oM,qY (by exact om) (by exact om) (Int.le_refl _),iO p,?_⟩;have hsl:((lm p).take (((lm p).length:Nat):Int).toNat).drop (nx .i64 (iquo (k:Int) 32)).toNat=lm (p.drop (k/32)):=by rw[hni,uF,uF,yU (yQ _),Sv]
  (try dsimp only [zS] at *)
  (rw[hsl];have hbl:(p.drop (k/32)).length<2^40:=by grind);generalize p.drop (k/32)=b at *
  cbv;refine⟨zV om om,uU om om,?_⟩;cbv;refine zY (σ:=Nat×List UInt32) (λs=>⟨[(0,nat b),(1,iV k),(6,zT 29 1 b.length),(30,nat b),(31,iV b.length),(32,iV s.1)],[(29,zW 1 (lm s.2))]⟩)
   (λs=>s.1<=b.length/\s.2.length=b.length/\val (s.2.take s.1)+B^s.1*(val (b.drop s.1)/2^(k%32))=val b/2^(k%32)) (λs=>b.length-s.1)
   (0,List.replicate b.length 0) ⟨om,by simp,by simp[val]⟩ (.le ?_ ?_ rfl) ?_
  {cbv;exact⟨lR,lR,zR rfl om,lR,zF (by (try dsimp only [zS] at *) <;> (grind [zJ]) <;> omega),lR,trivial⟩}
  ·(cbv;refine⟨zC ?_,trivial⟩;show List.replicate (((lm b).length:Int)).toNat _=_;have:(((lm b).length:Int)).toNat=b.length:=by grind [zJ]);rw[this]
   simp[lm,y7,toD]
  intro s hs;obtain⟨h1,h3,h4⟩:=hs;generalize s.1=i at *;generalize s.2=out at *;cbv;refine zG (λh5=>?_) (λh5=>?_)
  ·cbv;refine xM i (by (grind) <;> (try simp only[zJ] at *) <;> omega) om ?_;cbv;have hd:=yT (b.getD i 0);have hd1:=yT (b.getD (i+1) 0);have hks:k%32<32:=uQ _ oM;refine⟨zE om om,?_⟩;refine gK (σ:=Unit) (λ_=>⟨[(0,nat b),(1,iV k),(6,zT 29 1 b.length),(7,iV i),(9,.int .u64 (λ_=>(((b.getD i 0).toNat+4294967296*(b.getD (i+1) 0).toNat:Nat):Int))),(30,nat b),(31,iV b.length),(32,iV i)],[(29,zW 1 (lm out))]⟩) (λ_=>True) (λh6=>?_) (λh6=>?_) ?_
   ·cbv;refine⟨zE om om,xM (i+1) om om ?_⟩;cbv;refine⟨uD oM,(),trivial,.le ?_ ?_ rfl⟩
    ·cbv;refine⟨lR,lR,lR,lR,zF ?_,lR,lR,lR,trivial⟩
     (try dsimp only [zS] at *)
     rw[x5 (n:=(b.getD i 0).toNat) (by grind [B])];exact or2 hd hd1
    {cbv;exact⟨zC rfl,trivial⟩}
   ·cbv;refine⟨(),trivial,.le ?_ ?_ rfl⟩
    ·cbv;refine⟨lR,lR,lR,lR,zF ?_,lR,lR,lR,trivial⟩;have:(b.getD (i+1) 0).toNat=0:=by have:b.length<=i+1:=om;simp_all
     (try dsimp only [zS] at *)
     grind [x5,B]
    {cbv;exact⟨zC rfl,trivial⟩}
   intro _ _;have hY:(b.getD (i+1) 0).toNat=val (b.drop (i+1))%B:=pQ _;have hX:=jD (l:=b) (i:=i) om;have hst:=Dy (bi:=(b.getD i 0).toNat) hks hd hY;rw[<-hX] at hst;generalize hw:(b.getD i 0).toNat+4294967296*(b.getD (i+1) 0).toNat=w at *;have hw':(b.getD i 0).toNat+B*(b.getD (i+1) 0).toNat=w:=hw;rw[hw'] at hst;cbv;refine⟨kN oM,uD (by exact om),z9 om om,gI i (by simp) om ?_⟩;cbv;refine⟨zE om om,(i+1,out.set i (UInt32.ofNat (w/2^(k%32)))),⟨om,by grind,?_⟩,om,.le ?_ ?_ rfl⟩;{show val ((out.set i _).take (i+1))+B^(i+1)*_=_;rw[u5 _ om,xX,<-h4,hst,kP,uO,gM,m9]};{cbv;exact⟨lR,lR,lR,lR,lR,zF om,trivial⟩}
   ·(cbv;refine⟨zC ?_,trivial⟩;have e:ishr .u64 (w:Int) (irem (k:Int) 32)=((w/2^(k%32):Nat):Int):=by rw[hr];exact CU oM);show (lm out).set (0+(i:Int).toNat) [.int .u32 (nx .u32 (ishr .u64 (w:Int) (irem (k:Int) 32)))]=_
    rw[e];exact fW out (by simp) _
  {cbv;have hi:i=b.length:=om;subst hi;refine j4 (.trans (.le (ps':=⟨[(62,zT 29 1 b.length)],[(29,zW 1 (lm out))]⟩) ?_ ?_ rfl) (.frz 29 rfl rfl ?_ ?_)) rfl (by refine⟨zU ?_,trivial⟩;grind [zJ]) (aB out oM) rfl ?_;{cbv;exact okA};{cbv;exact⟨zC rfl,trivial⟩};{cbv;exact⟨z6 (by grind [zJ]),trivial⟩};{exact trivial};cbv;refine jL rfl ?_ rfl;refine⟨zU ?_,lR,trivial⟩;rw[yU oM,i9 (yQ _)] at h4;congr 2;rw[<-hdp,<-h4];simp[val]}
def ZE (n:Nat)(m:Int)(h:m=n):(List.replicate m.toNat (y7 [.int .u32 (λ_=>0)]):List (List D))=lm (List.replicate n 0):=by subst h;simp[lm,y7,toD]
theorem eI {l:List UInt32}{i:Nat}(h:i<l.length)(x:UInt32):val ((l.set i x).drop i)=x.toNat+B*val (l.drop (i+1)):=by grind [jD,List.drop_set_of_lt]
def NT (a:List UInt32)(d:Nat)(ha:a.length<2^40)(hd:d<B)(hd0:0<d):zH 231 [nat a,.int .u32 (λ_=>(d:Int))] (.tup [nat (zL (val a/d)),nat (zL (val a%d))]):=by
 have hdd:nx .u64 (d:Int)=(d:Int):=x5 (by grind [B]);refine sF Tryz.f231 ?_;cbv;refine⟨zV om om,uU om om,?_⟩;cbv;refine⟨zE om om,?_⟩;refine zY (σ:=Nat×Nat×List UInt32) (λs=>⟨[(0,nat a),(1,.int .u32 (λ_=>(d:Int))),(6,zT 11 1 a.length),(7,.int .u64 (λ_=>(s.2.1:Int))),(8,iV ((s.1:Int)-1))],[(11,zW 1 (lm s.2.2))]⟩)
  (λs=>s.1<=a.length/\s.2.1<d/\s.2.2.length=a.length/\val (a.drop s.1)=d*val (s.2.2.drop s.1)+s.2.1) (λs=>s.1)
  (a.length,0,List.replicate a.length 0) ⟨om,hd0,by simp,by simp[val]⟩ (.le ?_ ?_ rfl) ?_
 {cbv;exact⟨lR,lR,zR rfl om,lR,zF (by (try dsimp only [zS] at *) <;> (grind [zJ]) <;> omega),trivial⟩};{cbv;exact⟨zC (ZE a.length _ (by (try dsimp only [zS] at *) <;> (grind [zJ]) <;> omega)),trivial⟩};intro s hs;obtain⟨h1,h2,h3,h4⟩:=hs;generalize s.1=n at *;generalize s.2.1=r at *;generalize s.2.2=out at *;cbv;refine zG (λh5=>?_) (λh5=>?_)
 ·(try dsimp only [zS] at *)
  (obtain⟨m,rfl⟩:∃ m,n=m+1:=⟨n-1,by omega⟩;cbv;have hx:=yT (a.getD m 0);refine⟨uD oM,xM m om om ?_⟩;have hX:=jD (l:=a) (i:=m) om;generalize hxx:(a.getD m 0).toNat=x at *;have hT:ior .u64 (ishl .u64 (r:Int) 32) (nx .u64 (x:Int))=((x+B*r:Nat):Int):=by have:=P6 (a:=x) (b:=r) hx (by grind [B]);exact this);have hlt:x+B*r<d*B:=by have:=wN B (show r+1<=d from h2);rw[kP,jI B d] at this;omega
  (have hq:(x+B*r)/d<B:=by rw[Zi hd0,jI B d];exact hlt);have hdB:d*B<=B*B:=uR B (tP hd)
  (have hr:=uQ (x+B*r) hd0;have hdm:=Nat.div_add_mod (x+B*r) d;generalize hqq:(x+B*r)/d=q at *;generalize hrr:(x+B*r)%d=r' at *;have hQ:iquo (ior .u64 (ishl .u64 (r:Int) 32) (nx .u64 (x:Int))) (nx .u64 (d:Int))=(q:Int):=by rw[hT,hdd,oT,hqq]);have hR:irem (ior .u64 (ishl .u64 (r:Int) 32) (nx .u64 (x:Int))) (nx .u64 (d:Int))=(r':Int):=by rw[hT,hdd,dM,hrr]
  cbv;refine⟨kN (by exact om),z9 om om,gI m (by exact om) om ?_⟩;cbv;refine⟨kN (by exact om),zE om om,(m,r',out.set m (UInt32.ofNat q)),⟨om,hr,by grind,?_⟩,om,.le ?_ ?_ rfl⟩;{show val (a.drop m)=d*val ((out.set m _).drop m)+r';rw[hX,h4,eI om,xX,kL hq,kP B,kP d,Nat.mul_left_comm B d];omega};{cbv;exact⟨lR,lR,lR,zF hR,zF om,trivial⟩};{cbv;refine⟨zC (fT out (j:=m) ?_ ?_ hq),trivial⟩;{exact om};{show nx .u32 (nx .u64 (iquo (ior .u64 (ishl .u64 (r:Int) 32) (nx .u64 (x:Int))) (nx .u64 (d:Int))))=(q:Int);simp only[B] at hq;grind [x5,gV]}}
 ·cbv;have hn:n=0:=om;subst hn;refine j4 (.trans (.le (ps':=⟨[(7,.int .u64 (λ_=>(r:Int))),(39,zT 11 1 a.length)],[(11,zW 1 (lm out))]⟩) ?_ ?_ rfl) (.frz 11 rfl rfl ?_ ?_)) rfl (by refine⟨zU ?_,trivial⟩;grind [zJ]) (aB out oM) rfl ?_;{cbv;exact okA};{cbv;exact⟨zC rfl,trivial⟩};{cbv;exact⟨z6 (by grind [zJ]),trivial⟩};{exact trivial};cbv;have hrB:r<B*B:=by grind [B]
  (refine cA (Sg r hrB) ?_;cbv;refine jL rfl ?_ rfl;simp only[vS] at h4;have e1:val a/d=val out:=(Nat.div_eq_of_lt_le (by grind) (by grind));have e2:val a%d=r:=by rw[h4,Nat.mul_add_mod];exact kL h2);exact⟨zU (by rw[e1]),zU (by rw[e2]),trivial⟩
def sT {pre x post:List UInt32}{i:Nat}{K:List PV->Prop}(j:Nat)(hi:i=pre.length+j)(hj:j<x.length)(hK:K [.int .u32 (λ_=>((x.getD j 0).toNat:Int))]):ElOk 1 (λ_=>lm (pre++(x++post))) (λ_=>i) K:=by refine gI (pre.length+j) hi (by grind) ?_;grind
def tT {rs:List ResultVar}{r:PV}{ps:PS}{l:List PV}{n:Nat}{o:Obj'}(h1:dW ps rs=some l)(h2:les (mM l) (ren id r))(h3:lv r=true)(h4:yK ps.objs n=some o)(h5:bK o=true)(h6:Nat.ble 1000000 n=true):RetOk rs r [(n,o)] [] ps :=
 ⟨ps,l,id,.refl ps,h1,cO h2,h3,⟨⟨by grind [XQ],h5⟩,trivial⟩,rfl,⟨rfl,Nat.le_of_ble_eq_true h6⟩,trivial⟩
def Xt {rs:List ResultVar}{r:PV}{ps ps':PS}{l:List PV}{n:Nat}{o:Obj'}(hw:Wk ps ps')(h1:dW ps' rs=some l)(h2:les (mM l) (ren id r))(h3:lv r=true)(h4:yK ps'.objs n=some o)(h5:bK o=true)(h6:Nat.ble 1000000 n=true):RetOk rs r [(n,o)] [] ps :=
 ⟨ps',l,id,hw,h1,cO h2,h3,⟨⟨by grind [XQ],h5⟩,trivial⟩,rfl,⟨rfl,Nat.le_of_ble_eq_true h6⟩,trivial⟩
def FL {v1 v2 u2 q r:Nat}(hr:r<B)(hv:0<v1)(h:¬(B<=q\/r*B+u2<q*v2)):lH v1 v2 u2 q r=q:=by rw[lH,dif_neg oM,if_neg h]
theorem Bz {v1 v2 u2 q r:Nat}(hr:r<B)(hv:0<v1)(h:B<=q\/r*B+u2<q*v2)(h2:B<=r+v1):lH v1 v2 u2 q r=q-1:=by rw[lH,dif_neg oM,if_pos h,if_pos h2]
theorem SH {v1 v2 u2 q r:Nat}(hr:r<B)(hv:0<v1)(h:B<=q\/r*B+u2<q*v2)(h2:¬B<=r+v1):lH v1 v2 u2 q r=lH v1 v2 u2 (q-1) (r+v1):=by rw[lH,dif_neg oM,if_pos h,if_neg h2]
abbrev kx (pre x post:List UInt32):List (Nat×Obj'):=[(1000000,zW 1 (lm (pre++(x++post))))]
def NQ (pre x post v:List UInt32)(n:Nat)(hx:x.length=n+3)(hv:v.length=n+2)(hn:n<2^40)(hp:pre.length<2^40)(hnorm:B<=2*(v.getD (n+1) 0).toNat)(hle:(x.getD (n+2) 0).toNat<=(v.getD (n+1) 0).toNat):Sound 235 [.osl 1000000 1 (λ_=>pre.length) (λ_=>n+3),nat v] (kx pre x post) [] (.int .u64 (λ_=>((lH (v.getD (n+1) 0).toNat (v.getD n 0).toNat (x.getD n 0).toNat (((x.getD (n+2) 0).toNat*B+(x.getD (n+1) 0).toNat)/(v.getD (n+1) 0).toNat) (((x.getD (n+2) 0).toNat*B+(x.getD (n+1) 0).toNat)%(v.getD (n+1) 0).toNat):Nat):Int))) (kx pre x post) []:=by
 refine sF Tryz.f235 ?_;have hu0:=yT (x.getD (n+2) 0);have hu1:=yT (x.getD (n+1) 0);have hu2:=yT (x.getD n 0);have hv1:=yT (v.getD (n+1) 0);have hv2:=yT (v.getD n 0);have hB:B=4294967296:=rfl;generalize hxa:(x.getD (n+2) 0).toNat=xa at *;generalize hxb:(x.getD (n+1) 0).toNat=xb at *;generalize hxc:(x.getD n 0).toNat=xc at *;generalize hva:(v.getD (n+1) 0).toNat=va at *;generalize hvb:(v.getD n 0).toNat=vb at *;have hT:ior .u64 (ishl .u64 (nx .u64 (xa:Int)) 32) (nx .u64 (xb:Int))=((xa*B+xb:Nat):Int):=by rw[x5 (n:=xa) oM,P6 hu1 hu0,jI xa,Yq];rfl
 have hva0:0<va:=by omega
 have hq0:(xa*B+xb)/va<=B+1:=by
  (have:xa*B+xb<(B+2)*va:=by have h1:=uR B hle;rw[jK,jI B va];omega);have:=(Zi hva0).2 this;omega
 have hr0:(xa*B+xb)%va<B:=gC (uQ _ hva0) hv1;generalize hQ:lH va vb xc ((xa*B+xb)/va) ((xa*B+xb)%va)=Q;have hq':iquo ((xa*B+xb:Nat):Int) (va:Int)=(((xa*B+xb)/va:Nat):Int):=oT;have hr':irem ((xa*B+xb:Nat):Int) (va:Int)=(((xa*B+xb)%va:Nat):Int):=dM;generalize hq0':(xa*B+xb)/va=q0 at *;generalize hr0':(xa*B+xb)%va=r0 at *;generalize (xa*B+xb:Nat)=top at *;have hvn:nx .u64 (va:Int)=(va:Int):=x5 oM;cbv;refine zP 13 (by cbv) ?_;cbv;refine⟨z9 om om,sT (n+2) om om ?_⟩;cbv;refine⟨uD oM,zE om om,z9 om om,sT (n+1) om om ?_⟩;cbv;refine zP 18 (by cbv) ?_;cbv;refine⟨zE om om,xM (n+1) om om ?_⟩;cbv;refine⟨kN (by (try dsimp only [zS] at *);grind),zE om om,xM (n+1) om om ?_⟩;cbv;refine⟨kN (by (try dsimp only [zS] at *);grind),?_⟩;refine zY (σ:=Nat×Nat) (λs=>⟨[(0,.osl 1000000 1 (λ_=>pre.length) (λ_=>n+3)),(1,nat v),(5,iV (((n+2:Nat):Int))),(7,.int .u64 (λ_=>(s.1:Int))),(8,.int .u64 (λ_=>(s.2:Int)))],kx pre x post⟩)
  (λs=>s.1<=B+1/\s.2<B/\lH va vb xc s.1 s.2=Q) (λs=>B-s.2)
  (q0,r0) ⟨hq0,hr0,hQ⟩ (.le ?_ ?_ rfl) ?_
 ·cbv;refine⟨lR,lR,zF om,zF ?_,zF ?_,trivial⟩
  ·(try dsimp only [zS] at *)
   grind [x5]
  ·(try dsimp only [zS] at *)
   grind
 {cbv;exact⟨zC rfl,trivial⟩};intro s hs;obtain⟨h1,h2,h3⟩:=hs;generalize s.1=q at *;generalize s.2=r at *;have hround:(B<=q\/r*B+xc<q*vb)->0<q:=by grind
 have hq1:0<q->nx .u64 ((q:Int)-1)=((q-1:Nat):Int):=λh=>by grind [uM]
 have hr1:nx .u64 ((r:Int)+(va:Int))=((r+va:Nat):Int):=by grind [uM]
 cbv;refine zP 22 (by cbv) ?_;cbv;have fin:(B<=q\/r*B+xc<q*vb)->∀ (K:Prop),(B<=r+va->Q=q-1->K)->(¬B<=r+va->(lH va vb xc (q-1) (r+va)=Q/\q-1<=B+1/\r+va<B/\B-(r+va)<B-r)->K)->K:=by intro hc K k1 k2;by_cases h4:B<=r+va;{grind [Bz]};grind [SH]
 refine zX (λh4=>?_) (λh4=>?_)
 ·(have hc:B<=q\/r*B+xc<q*vb:=.inl (by rw[hB];exact om);cbv;refine⟨zE om om,xM (n+1) om om ?_⟩;have hz:nx .u64 ((r:Int)+nx .u64 (((v.getD (n+1) 0).toNat:Nat):Int))=((r+va:Nat):Int):=by grind);have hz2:=hq1 (hround hc)
  cbv
  (try dsimp only [zS] at *)
  refine fin hc _ (λh6 h7=>?_) (λh6 h7=>?_);{refine zG (λh8=>?_) (λh8=>absurd h8 oM);cbv;exact tT rfl (zF (by grind)) rfl rfl rfl rfl};{refine zG (λh8=>absurd h8 oM) (λh8=>?_);cbv;refine⟨(q-1,r+va),⟨h7.2.1,h7.2.2.1,h7.1⟩,h7.2.2.2,.le ?_ ?_ rfl⟩;{cbv;exact⟨lR,lR,lR,zF hz2,zF hz,trivial⟩};{cbv;exact⟨zC rfl,trivial⟩}}
 ·(cbv;refine⟨zE om om,xM n om om ?_⟩;cbv;refine⟨uD om,zE om om,z9 om om,sT n om om ?_⟩;have hq2:q<B:=by rw[hB];exact om);have hm1:nx .u64 ((q:Int)*nx .u64 (((v.getD n 0).toNat:Nat):Int))=((q*vb:Nat):Int):=by rw[hvb,x5 (n:=vb) oM];have:q*vb<4294967296*4294967296:=Z3 oM oM;exact x5 oM
  (have hm2:ior .u64 (ishl .u64 (r:Int) 32) (nx .u64 (((x.getD n 0).toNat:Nat):Int))=((r*B+xc:Nat):Int):=by grind [P6]);cbv
  (try dsimp only [zS] at *)
  refine zG (λh5=>?_) (λh5=>?_)
  ·(have hc:B<=q\/r*B+xc<q*vb:=.inr oM;cbv;refine⟨zE om om,xM (n+1) om om ?_⟩;have hz:nx .u64 ((r:Int)+nx .u64 (((v.getD (n+1) 0).toNat:Nat):Int))=((r+va:Nat):Int):=by grind);have hz2:=hq1 (hround hc)
   cbv
   (try dsimp only [zS] at *)
   refine fin hc _ (λh6 h7=>?_) (λh6 h7=>?_);{refine zG (λh8=>?_) (λh8=>absurd h8 oM);cbv;exact tT rfl (zF (by grind)) rfl rfl rfl rfl};{refine zG (λh8=>absurd h8 oM) (λh8=>?_);cbv;refine⟨(q-1,r+va),⟨h7.2.1,h7.2.2.1,h7.1⟩,h7.2.2.2,.le ?_ ?_ rfl⟩;{cbv;exact⟨lR,lR,lR,zF hz2,zF hz,trivial⟩};{cbv;exact⟨zC rfl,trivial⟩}}
  ·(have hc:¬(B<=q\/r*B+xc<q*vb):=by omega);have hs:=FL h2 hva0 hc
   cbv;exact tT rfl (zF (by grind)) rfl rfl rfl rfl
def HP {pre x post:List UInt32}{j:Nat}(h:j<x.length)(w:UInt32):(pre++(x++post)).set (pre.length+j) w=pre++(x.set j w++post):=by grind
def He {pre x post:List UInt32}{j w k:Nat}{z:Int}(hk:k=pre.length+j)(h:j<x.length)(hz:z=(w:Int))(hw:w<B):(lm (pre++(x++post))).set k [.int .u32 z]=lm (pre++(x.set j (UInt32.ofNat w)++post)):=by rw[<-HP h];grind [fT]
def Fu {pre x post:List UInt32}{j S k:Nat}(hk:k=pre.length+j)(h:j<x.length):(lm (pre++(x++post))).set k [.int .u32 (nx .u32 ((S:Nat):Int))]=lm (pre++(x.set j (UInt32.ofNat S)++post)):=by rw[<-HP h];grind [fW]
def QU {u lo b:Nat}(hu:u<B)(hlo:lo<=B)(hb:b<2)(hlb:lo+b<=B):∃ w b':Nat,w<B/\b'<2/\u+B*b'=w+lo+b /\ nx .u64 (nx .u64 ((u:Int)-(lo:Int))-(b:Int))=(if b'=0 then (w:Int) else (w:Int)+18446744069414584320):=by simp only[B] at *;by_cases h:u<lo+b;{refine⟨u+4294967296-lo-b,1,by omega,by omega,by omega,?_⟩;simp only[uM];omega};{refine⟨u-lo-b,0,by omega,by omega,by omega,?_⟩;simp only[uM];grind}
def HI {w b':Nat}(hw:w<B)(hb:b'<2):ishr .u64 (if b'=0 then (w:Int) else (w:Int)+18446744069414584320) 63=(b':Int):=by grind [B,CV]
def Kw {w b':Nat}(hw:w<B):nx .u32 (if b'=0 then (w:Int) else (w:Int)+18446744069414584320)=(w:Int):=by grind [B,gV]
def Sm {P R t s:Nat}(ht:t<P)(hR:R<P)(h:t+P*s=P*B+R):s=B/\t=R:=by rcases Nat.lt_trichotomy s B with h1|h1|h1;{have:=wN P (show s+1<=B from h1);rw[kP] at this;omega};{subst h1;omega};{have:=wN P (show B+1<=s from h1);rw[kP] at this;omega}
def NR (pre x post v:List UInt32)(n q:Nat)(hx:x.length=n+1)(hv:v.length=n)(hn:n<2^40)(hp:pre.length<2^40)(hq:q<B)(hhi:q*val v<=val x+val v):Sound 234 [.osl 1000000 1 (λ_=>pre.length) (λ_=>n+1),nat v,.int .u64 (λ_=>(q:Int))] (kx pre x post) [] (.int .u32 (λ_=>((Ym (val x) (val v) q:Nat):Int))) (kx pre (pad (val x-Ym (val x) (val v) q*val v) (n+1)) post) []:=by
 refine sF Tryz.f234 ?_;have hB:B=4294967296:=rfl;have hBB:B*B=18446744073709551616:=by decide
 have hV:=xZ v;rw[hv] at hV;have hdig:Ym (val x) (val v) q=if q*val v<=val x then q else q-1:=rfl
 generalize hD:Ym (val x) (val v) q=D at *;generalize hF:pad (val x-D*val v) (n+1)=F;cbv;refine zY (σ:=Nat×Nat×Nat×List UInt32) (λs=>⟨[(0,.osl 1000000 1 (λ_=>pre.length) (λ_=>n+1)),(1,nat v),(2,.int .u64 (λ_=>(q:Int))),(7,.int .u64 (λ_=>(s.2.1:Int))),(8,.int .u64 (λ_=>(s.2.2.1:Int))),(15,nat v),(16,iV n),(17,iV s.1)],kx pre s.2.2.2 post⟩)
  (λs=>s.1<=n/\s.2.1<B/\s.2.2.1<2/\s.2.2.2.length=n+1/\s.2.2.2.drop s.1=x.drop s.1/\val (s.2.2.2.take s.1)+q*val (v.take s.1)=val (x.take s.1)+B^s.1*(s.2.1+s.2.2.1)) (λs=>n-s.1)
  (0,0,0,x) ⟨om,vY,by grind,hx,rfl,by simp[val]⟩ (.le ?_ ?_ rfl) ?_
 {cbv;exact⟨lR,lR,lR,lR,lR,lR,zF om,lR,trivial⟩};{cbv;exact⟨zC rfl,trivial⟩};intro s hs;obtain⟨h1,h2,h3,h4,h5,h6⟩:=hs;generalize s.1=i at *;generalize s.2.1=c at *;generalize s.2.2.1=b at *;generalize s.2.2.2=y at *;cbv;refine zG (λh7=>?_) (λh7=>?_)
 ·(have hin:i<n:=om;have hyx:y.getD i 0=x.getD i 0:=by have:=congrArg (λl=>l.getD 0 0) h5;grind);have hd:=yT (v.getD i 0);have hu:=yT (x.getD i 0);have hCl:c+q*(v.getD i 0).toNat<B*B:=by have h8:q*(v.getD i 0).toNat<=(B-1)*(B-1):=B9 oM oM;grind
  (obtain⟨w,b',hw,hb',hwe,hz⟩:=QU (u:=(x.getD i 0).toNat) (lo:=(c+q*(v.getD i 0).toNat)%B) (b:=b) hu (tP (uQ _ vY)) h3 (by grind);have hC:nx .u64 ((c:Int)+nx .u64 ((q:Int)*nx .u64 (((v.getD i 0).toNat:Nat):Int)))=((c+q*(v.getD i 0).toNat:Nat):Int):=by rw[x5 (n:=(v.getD i 0).toNat) oM];have e1:nx .u64 ((q:Int)*(((v.getD i 0).toNat:Nat):Int))=((q*(v.getD i 0).toNat:Nat):Int):=x5 (n:=q*(v.getD i 0).toNat) oM;grind [x5]);have hlo:nx .u64 (nx .u32 ((c+q*(v.getD i 0).toNat:Nat):Int))=(((c+q*(v.getD i 0).toNat)%B:Nat):Int):=by
   (rw[gV,hB];have:(((c+q*(v.getD i 0).toNat:Nat):Int)%4294967296)=(((c+q*(v.getD i 0).toNat)%4294967296:Nat):Int):=by omega);rw[this]
   exact x5 oM
  (have hui:nx .u64 (((y.getD i 0).toNat:Nat):Int)=(((x.getD i 0).toNat:Nat):Int):=by rw[hyx];exact x5 oM);have hZ:nx .u64 (nx .u64 (nx .u64 (((y.getD i 0).toNat:Nat):Int)-nx .u64 (nx .u32 (nx .u64 ((c:Int)+nx .u64 ((q:Int)*nx .u64 (((v.getD i 0).toNat:Nat):Int))))))-(b:Int))=(if b'=0 then (w:Int) else (w:Int)+18446744069414584320):=by grind
  cbv;refine xM i (by (grind) <;> (try simp only[zJ] at *) <;> omega) om ?_;cbv;refine⟨z9 om om,sT i om om ?_⟩;cbv;refine⟨z9 om om,sT i om om ?_⟩;cbv;refine⟨uD oM,uD oM,zE om om,(i+1,(c+q*(v.getD i 0).toNat)/B,b',y.set i (UInt32.ofNat w)),⟨om,?_,hb',by grind,?_,?_⟩,om,.le ?_ ?_ rfl⟩;{grind};{show (y.set i _).drop (i+1)=x.drop (i+1);rw[List.drop_set_of_lt oM,<-Z2,<-Z2,h5]};{show val ((y.set i _).take (i+1))+q*val (v.take (i+1))=val (x.take (i+1))+B^(i+1)*((c+q*(v.getD i 0).toNat)/B+b');rw[u5 _ om,z7 v,z7 x,xX,kL hw,uO];grind [Nat.mod_add_div]}
  ·cbv;refine⟨lR,lR,lR,zF ?_,zF ?_,lR,lR,zF om,trivial⟩
   ·(try dsimp only [zS] at *)
    rw[hC];exact sN _
   ·(try dsimp only [zS] at *)
    rw[hZ];exact HI hw hb'
  ·cbv;have hset:(lm (pre++(y++post))).set (pre.length+(i:Int).toNat) [.int .u32 (nx .u32 (nx .u64 (nx .u64 (nx .u64 (((y.getD i 0).toNat:Nat):Int)-nx .u64 (nx .u32 (nx .u64 ((c:Int)+nx .u64 ((q:Int)*nx .u64 (((v.getD i 0).toNat:Nat):Int))))))-(b:Int))))]=lm (pre++(y.set i (UInt32.ofNat w)++post)) :=
    He (by simp) oM (by rw[hZ];exact Kw hw) hw
   exact⟨zC hset,trivial⟩
 ·have hin:i=n:=om;subst hin;have hyx:y.getD i 0=x.getD i 0:=by have:=congrArg (λl=>l.getD 0 0) h5;grind
  (have hu:=yT (x.getD i 0);obtain⟨w,b',hw,hb',hwe,hz⟩:=QU (u:=(x.getD i 0).toNat) (lo:=c) (b:=b) hu (tP h2) h3 oM;have hui:nx .u64 (((y.getD i 0).toNat:Nat):Int)=(((x.getD i 0).toNat:Nat):Int):=by rw[hyx];exact x5 oM);have hZ:nx .u64 (nx .u64 (nx .u64 (((y.getD i 0).toNat:Nat):Int)-(c:Int))-(b:Int))=(if b'=0 then (w:Int) else (w:Int)+18446744069414584320):=by grind
  have hTB:=HI hw hb';have hLL:=Kw (w:=w) (b':=b') hw;generalize hzz:(if b'=0 then (w:Int) else (w:Int)+18446744069414584320)=zz at *;have hi40:i<2^40:=hn;cbv;refine⟨z9 om om,sT i om om ?_⟩;cbv;refine⟨z9 om om,sT i om om ?_⟩;have hset:(lm (pre++(y++post))).set (pre.length+(((lm v).length:Nat):Int).toNat) [.int .u32 (nx .u32 (nx .u64 (nx .u64 (nx .u64 (((y.getD i 0).toNat:Nat):Int)-(c:Int))-(b:Int))))]=lm (pre++(y.set i (UInt32.ofNat w)++post)) :=
   He (pre:=pre) (x:=y) (post:=post) (j:=i) (by grind [zJ]) oM (by grind) hw
  (have hlen1:(y.set i (UInt32.ofNat w)).length=i+1:=by grind);have hval1:val (y.set i (UInt32.ofNat w))+q*val v=val x+B^(i+1)*b':=by have e1:=u5 y (n:=i) oM (UInt32.ofNat w);have e2:=z7 x i;grind [xX,Nat.mod_eq_of_lt]
  have hlt1:=xZ (y.set i (UInt32.ofNat w));rw[hlen1] at hlt1;generalize hy1:y.set i (UInt32.ofNat w)=y1 at *;cbv;refine⟨uD oM,?_⟩;refine zG (λh8=>?_) (λh8=>?_)
  ·(have hb0:b'=0:=by (try dsimp only [zS] at *);grind);subst hb0
   (have hle:q*val v<=val x:=by omega);rw[if_pos hle] at hdig
   (have hy:y1=F:=by grind [J5]);cbv
   refine Xt (.le (ps':=⟨[(6,.int .u32 (λ_=>(D:Int)))],kx pre F post⟩) ?_ ?_ rfl) rfl (lR) rfl rfl rfl rfl;{cbv;refine⟨zF ?_,trivial⟩;grind [gV]};{cbv;refine⟨zC ?_,trivial⟩;rw[<-hy];exact hset}
  ·(have hb1:b'=1:=by (try dsimp only [zS] at *);grind);subst hb1
   (rw[Zj] at hval1;have hgt:¬q*val v<=val x:=by omega);rw[if_neg hgt] at hdig
   have hq1:0<q:=by
    rcases tQ q with e|e
    all_goals simp_all
   cbv;refine zY (σ:=Nat×Nat×List UInt32) (λs=>⟨[(0,.osl 1000000 1 (λ_=>pre.length) (λ_=>i+1)),(1,nat v),(2,.int .u64 (λ_=>(q:Int))),(7,.int .u64 (λ_=>(s.2.1:Int))),(70,nat v),(71,iV i),(72,iV s.1)],kx pre s.2.2 post⟩)
    (λs=>s.1<=i/\s.2.1<2/\s.2.2.length=i+1/\s.2.2.drop s.1=y1.drop s.1/\val (s.2.2.take s.1)+B^s.1*s.2.1=val (y1.take s.1)+val (v.take s.1)) (λs=>i-s.1)
    (0,0,y1) ⟨om,by grind,hlen1,rfl,by simp[val]⟩ (.le ?_ ?_ rfl) ?_
   {cbv;exact⟨lR,lR,lR,lR,lR,zF (by rw[zJ,hv]),lR,trivial⟩};{cbv;exact⟨zC hset,trivial⟩};intro s hs;obtain⟨k1,k2,k3,k4,k5⟩:=hs;generalize s.1=m at *;generalize s.2.1=e at *;generalize s.2.2=t at *;have htx:t.getD m 0=y1.getD m 0:=by have:=congrArg (λl=>l.getD 0 0) k4;grind
   cbv;refine zG (λk6=>?_) (λk6=>?_)
   ·(have hin:m<i:=om;have hd:=yT (v.getD m 0);have ht:=yT (y1.getD m 0);have hS:nx .u64 ((e:Int)+nx .u64 (nx .u64 (((t.getD m 0).toNat:Nat):Int)+nx .u64 (((v.getD m 0).toNat:Nat):Int)))=((e+((y1.getD m 0).toNat+(v.getD m 0).toNat):Nat):Int):=by grind [uM]);cbv
    refine xM m (by (grind) <;> (try simp only[zJ] at *) <;> omega) om ?_;cbv;refine⟨z9 om om,sT m om om ?_⟩;cbv;refine⟨z9 om om,sT m om om ?_⟩;cbv;refine⟨uD oM,zE om om,(m+1,(e+((y1.getD m 0).toNat+(v.getD m 0).toNat))/B,t.set m (UInt32.ofNat (e+((y1.getD m 0).toNat+(v.getD m 0).toNat)))),⟨om,?_,by grind,?_,?_⟩,om,.le ?_ ?_ rfl⟩;{grind};{show (t.set m _).drop (m+1)=y1.drop (m+1);rw[List.drop_set_of_lt oM,<-Z2,<-Z2,k4]};{show val ((t.set m _).take (m+1))+B^(m+1)*((e+((y1.getD m 0).toNat+(v.getD m 0).toNat))/B)=val (y1.take (m+1))+val (v.take (m+1));rw[u5 _ om,z7 v,z7 y1,xX,uO];have hdm:=WU (e+((y1.getD m 0).toNat+(v.getD m 0).toNat)) B;generalize (e+((y1.getD m 0).toNat+(v.getD m 0).toNat))%B=lo at *;generalize (e+((y1.getD m 0).toNat+(v.getD m 0).toNat))/B=hi at *;grind}
    ·cbv;refine⟨lR,lR,lR,zF ?_,lR,lR,zF om,trivial⟩
     (try dsimp only [zS] at *)
     rw[hS];exact sN _
    ·(cbv;have hset2:(lm (pre++(t++post))).set (pre.length+(m:Int).toNat) [.int .u32 (nx .u32 (nx .u64 ((e:Int)+nx .u64 (nx .u64 (((t.getD m 0).toNat:Nat):Int)+nx .u64 (((v.getD m 0).toNat:Nat):Int)))))]=lm (pre++(t.set m (UInt32.ofNat (e+((y1.getD m 0).toNat+(v.getD m 0).toNat)))++post)):=by rw[hS];exact Fu (by simp) oM);exact⟨zC hset2,trivial⟩
   ·(have hin:m=i:=om;subst hin;cbv;refine⟨z9 om om,sT m om om ?_⟩;cbv;refine⟨z9 om om,sT m om om ?_⟩;have hyt:=z7 y1 m;rw[yU (Nat.le_of_eq hlen1)] at hyt;rw[yU (Nat.le_of_eq hv)] at k5;have htl:=wY t m;have hR:val x+val v-q*val v<B^m:=by omega);have hfin:=Sm (P:=B^m) (s:=e+(y1.getD m 0).toNat) htl hR (by rw[kP];rw[uO] at hval1;omega)
    have ht1:=yT (y1.getD m 0);have hset3:(lm (pre++(t++post))).set (pre.length+(((lm v).length:Nat):Int).toNat) [.int .u32 (nx .u32 ((((t.getD m 0).toNat:Nat):Int)+nx .u32 (e:Int)))]=lm (pre++(t.set m (UInt32.ofNat 0)++post)) :=
     He (w:=0) (by grind [zJ]) oM (by grind [gV]) vY
    (have hWV:val v<=q*val v:=Ai _ hq1;have hDv:D*val v=q*val v-val v:=by grind);have hF2:t.set m (UInt32.ofNat 0)=F:=by rw[<-hF];refine J5 (by grind) ?_;have e1:=u5 t (n:=m) oM (UInt32.ofNat 0);rw[yU (by simp;omega)] at e1;rw[e1,hfin.2,hDv];simp only[xX,Nat.zero_mod,Nat.mul_zero,tM];omega
    cbv;refine Xt (.le (ps':=⟨[(6,.int .u32 (λ_=>(D:Int)))],kx pre F post⟩) ?_ ?_ rfl) rfl (lR) rfl rfl rfl rfl;{cbv;refine⟨zF ?_,trivial⟩;rw[hdig];show nx .u32 (nx .u64 ((q:Int)-1))=((q-1:Nat):Int);simp only[gV,uM];omega};{cbv;refine⟨zC ?_,trivial⟩;rw[<-hF2];exact hset3}
end Go.Proofs.YtboocdbmnfjomaaGreat
