/- A part of the proof: NtE, NtF, NtG, NtH. -/
import Derived.Test.YtaeaffgjdcigoaaGreatC14
import Derived.Test.YtaeaffgjdcigoaaGreatC15
set_option linter.all false
namespace Go.Proofs.YtaeaffgjdcigoaaGreat
open Go
set_option maxRecDepth 100000
theorem zI2 {a b:Nat}(ha:a<4294967296)(hb:b<4294967296):ior .u32 (a:Int) (b:Int)=((a ||| b:Nat):Int):=by
 unfold ior;have h1:a ||| b<2^32:=zLD ha hb;have key:(BitVec.ofInt 32 (a:Int) ||| BitVec.ofInt 32 (b:Int)).toNat=a ||| b:=by grind
 show IntKind.u32.wrap ((BitVec.ofInt 32 (a:Int) ||| BitVec.ofInt 32 (b:Int)).toNat:Int)=_;rw[key];have:=gP ((a ||| b:Nat):Int);grind [nx]
theorem pL {a k c:Nat}(ha:a<2^k):a ||| (2^k*c)=a+2^k*c:=by rw[Nat.or_comm,zE5,Nat.two_pow_add_eq_or_of_lt ha]
theorem rX {a k:Nat}(hk:k<64)(h:a*2^k<18446744073709551616):ishl .u64 (a:Int) (k:Int)=((a*2^k:Nat):Int):=by unfold ishl;have:=uM ((a*2^k:Nat):Int);grind [nx,IntKind.bits]
theorem zZN {els:List (List D)}{l:List UInt32}(he:els=lm l){i:Nat}{K:List PV->Prop}(j:Nat)(hk:i=j)(hj:j<l.length)(hK:K [.int .u32 (fun _=>((l.getD j 0).toNat:Int))]):ElOk 1 (fun _=>els) (fun _=>i) K:=by subst he;exact j8 j hk hj hK
theorem s234 (a:List UInt32)(k:Nat)(ha:a.length<2^40)(hk:k<32):Sound 304 [nat a,.int .i64 (fun _=>(k:Int))] [] [] (.osl 12 1 (fun _=>0) (fun _=>a.length+1)) [] [(12,.arr 1 (fun _=>lm (pad (val a*2^k) (a.length+1))))]:=by
 refine sF Tryz.f304 ?_;cbv;refine⟨zD om om,yD om om,jO om om,?_⟩;cbv;refine z3 (σ:=Nat×List UInt32) (fun s=>⟨[(0,nat a),(1,.int .i64 (fun _=>(k:Int))),(5,.osl 12 1 (fun _=>0) (fun _=>a.length+1)),(13,nat a),(14,.int .i64 (fun _=>(a.length:Int))),(15,.int .i64 (fun _=>(s.1:Int)))],[(12,.arr 1 (fun _=>lm s.2))]⟩)
  (fun s=>s.1<=a.length/\s.2.length=a.length+1/\val s.2=val (a.take s.1)*2^k/\(s.2.getD s.1 0).toNat<2^k/\∀ j,s.1<j->s.2.getD j 0=0) (fun s=>a.length-s.1)
  (0,List.replicate (a.length+1) 0) ⟨om,by simp,by simp[val,gV],by simp;grind,fun j _=>by grind⟩ (.le ?_ ?_ rfl) ?_
 {cbv;exact⟨lR,lR,yC rfl om,lR,zC (by (try dsimp only [zF] at *) <;> (grind [zH]) <;> omega),lR,trivial⟩}
 ·(cbv;refine⟨zI ?_,trivial⟩;show List.replicate (((lm a).length:Int)+1).toNat _=_;have:(((lm a).length:Int)+1).toNat=a.length+1:=by grind [zH]);rw[this]
  simp[lm,wB,toD]
 intro s hs;obtain⟨h1,h2,h3,h3',h4⟩:=hs;generalize s.1=i at *
 generalize s.2=out at *
 cbv;refine zG (fun h5=>?_) (fun h5=>?_)
 ·cbv;refine xG i (by (grind) <;> (try simp only[zH] at *) <;> omega) om ?_;cbv;refine⟨uF om,y9 om om,j8 i (by simp) om ?_⟩;cbv;refine⟨y9 om om,j8 i (by simp) om ?_⟩;cbv;have hd:=yL (a.getD i 0);have ho:=yL (out.getD i 0);generalize hdd:(a.getD i 0).toNat=d at *
  generalize hoo:(out.getD i 0).toNat=o at *
  (have hB:B=4294967296:=rfl;have hx:d*2^k<4294967296*4294967296:=zLC oM (pC oM hk);have hT:ishl .u64 (nx .u64 (d:Int)) (k:Int)=((d*2^k:Nat):Int):=by grind [x5,rX]);have hmod:∃ c,(d*2^k)%B=2^k*c:=by
   (have hB2:B=2^k*2^(32-k):=by rw[<-bD];grind);rw[hB2,qY d,Nat.mul_mod_mul_left]
   grind
  (obtain⟨e,he⟩:=hmod;have hml:(d*2^k)%B<B:=uH _ w5;have hw:o+(d*2^k)%B<B:=by rw[he,<-pL h3'];exact zLD (n:=32) ho oM);have hW:ior .u32 (o:Int) (nx .u32 (ishl .u64 (nx .u64 (d:Int)) (k:Int)))=((o+(d*2^k)%B:Nat):Int):=by
   (have h8:nx .u32 ((d*2^k:Nat):Int)=(((d*2^k)%B:Nat):Int):=by grind [gP]);rw[hT,h8,zI2 ho hml,he,pL h3']
  (have hset1:=sN out (j:=i) om (UInt32.ofNat (o+(d*2^k)%B));have hels:(lm out).set (0+(i:Int).toNat) [.int .u32 (ior .u32 (o:Int) (nx .u32 (ishl .u64 (nx .u64 (d:Int)) (k:Int))))]=lm (out.set i (UInt32.ofNat (o+(d*2^k)%B))):=by rw[hW];exact fD out (by simp) rfl hw);have hlen1:(out.set i (UInt32.ofNat (o+(d*2^k)%B))).length=a.length+1:=by grind
  (have hi1:0+((i:Int)+1).toNat=i+1:=by omega);generalize hout1:out.set i (UInt32.ofNat (o+(d*2^k)%B))=out1 at *
  (refine⟨zD om om,uF oM,y9 om om,zZN hels (i+1) hi1 om ?_⟩;cbv;have hz1:out1.getD (i+1) 0=0:=by grind [pS]);have hset2:=sN out1 (j:=i+1) om (UInt32.ofNat (d*2^k/B))
  (have hq:d*2^k/B<2^k:=by rw[zC2 w5,qY];exact Nat.mul_lt_mul_of_pos_left hd (Nat.pow_pos oM));have hqB:d*2^k/B<B:=bC hq (show 2^k<2^32 from pC oM hk);refine⟨zD om om,(i+1,out1.set (i+1) (UInt32.ofNat (d*2^k/B))),⟨om,by grind,?_,?_,?_⟩,om,.le ?_ ?_ rfl⟩
  ·(show val (out1.set (i+1) _)=val (a.take (i+1))*2^k;rw[zW a,hdd,gF,<-h3,jX];rw[hz1,xW,qU hqB] at hset2;rw[xW,qU hw] at hset1;have e1:B^i*((d*2^k)%B)+B^(i+1)*(d*2^k/B)=B^i*(d*2^k):=by rw[uG,jX,<-qH,zHC]);grind
  ·(show ((out1.set (i+1) _).getD (i+1) 0).toNat<2^k;have:(out1.set (i+1) (UInt32.ofNat (d*2^k/B))).getD (i+1) 0=UInt32.ofNat (d*2^k/B):=by have:i+1<out1.length:=om;grind);grind [xW]
  {grind [pS]};{cbv;exact⟨lR,lR,lR,lR,lR,zC om,trivial⟩};{cbv;refine⟨zI ?_,trivial⟩;show ((lm out).set (0+(i:Int).toNat) [.int .u32 (ior .u32 (o:Int) (nx .u32 (ishl .u64 (nx .u64 (d:Int)) (k:Int))))]).set (0+((i:Int)+1).toNat) [.int .u32 (nx .u32 (ishr .u64 (ishl .u64 (nx .u64 (d:Int)) (k:Int)) 32))]=_;rw[hels,hT,aY];exact fE out1 hi1 _}
 {cbv;have hip:i=a.length:=om;subst hip;rw[yS (zZ _)] at h3;refine⟨⟨_,_,id,.refl _,rfl,dO (lR),rfl,?_,rfl,trivial⟩⟩;exact⟨⟨by rw[zM5 h2 h3];rfl,rfl⟩,trivial⟩}
theorem zA0 {f : FuncId} {fn : Func} (hf : Pg.funcs[f]? = some fn) (hb : fn.body.isSome = true) (hname : (fn.name == "runtime.NumGoroutine") = false) {k k' : IntKind} {x z : Int} (h:∀ w,Calls Pg f #[.int k x] w fun e w'=>e=.returned (.int k' z)/\w'=w):zE f [.int k (fun _=>x)] (.int k' (fun _=>z)) where
 isf vals w:=by
  (obtain⟨c,hc⟩:=zQP.1 hb;have hn : ¬ fn.name = "runtime.NumGoroutine" := by grind);simp[callFunc,hf,hn,hc]
 go w S β vals hbnd hobj hsz hrep:=by
  have h0:=vO (hrep 0 (by simp));have hv:vals=#[.int k x]:=by
   apply Array.ext;{omega}
   ·(intro i h1 h2;have:i=0:=by grind);simp_all
  subst hv;refine (h w).mono ?_;rintro e w' ⟨rfl,rfl⟩;exact⟨_,S,β,rfl,⟨zZ _,rfl,rfl,rfl,fun _ _ _=>rfl,fun b vs T h=>⟨vs,h,rfl⟩,hbnd,fun _ _ _ h=>h,fun _ _ _ _ h=>h⟩,.c rfl (.int _ _),hobj,rfl,fun _ _ h=>by simp at h,fun n o b h=>by simp at h⟩
theorem yAT:Pg.funcs[221]?=some Tryz.f221:=by rw[uV];rfl
theorem s228 (x:Nat)(hx:x<4294967296):zE 221 [.int .u32 (fun _=>(x:Int))] (.int .i64 (fun _=>(Lib.bitLen x:Int))):=by refine zA0 yAT rfl rfl fun w=>?_;grind [uV,yAS]
theorem dT {x:Nat}(hx:x<4294967296):Lib.bitLen x<=32:=Lib.bitLen_le x 32 oM oM
theorem s233 (x:Nat)(hx:x<4294967296):zE 303 [.int .u32 (fun _=>(x:Int))] (.int .i64 (fun _=>32-(Lib.bitLen x:Int))):=by refine sF Tryz.f303 ?_;have:=dT hx;cbv;refine cA (s228 x hx) ?_;cbv;refine⟨zD om om,?_⟩;exact jZ rfl (lR) rfl
def gC (n:Nat):Nat:=if n=0 then 0 else 32*((zK n).length-1)+Lib.bitLen ((zK n).getD ((zK n).length-1) 0).toNat
theorem zCV {x:Nat}(h:x≠0)(hx:x<4294967296):0<Lib.bitLen x:=by grind [Lib.bitLen_half]
theorem zYD {n:Nat}(h:n≠0):((zK n).getD ((zK n).length-1) 0).toNat≠0:=by have h1:=sY n;rw[p5 (fun e=>h (x8.1 e))] at h1;intro e;have:(zK n).getD ((zK n).length-1) 0=0:=zC0.1 e;grind
theorem n9 {n:Nat}:gC n=0↔n=0:=by unfold gC;split;{simp_all};{rename_i h;have:=zCV (zYD h) (yL _);omega}
theorem zSB {n:Nat}:gC n<=32*(zK n).length:=by
 unfold gC;split;{omega}
 ·(rename_i h;have h1:=dT (x:=((zK n).getD ((zK n).length-1) 0).toNat) (yL _);have:0<(zK n).length:=by rcases zHB (zK n).length with e|e;exact absurd (x8.1 (kR e)) h;exact e);omega
theorem s202 (l:List UInt32)(hl:l.length<2^40):zE 274 [nat l] (.int .i64 (fun _=>(gC (val l):Int))):=by
 refine sF Tryz.f274 ?_;have hl':=xP (zX l) hl;cbv;refine cA (cL l oM) ?_;cbv;refine zG (fun h=>?_) (fun h=>?_);{cbv;refine jZ rfl ?_ rfl;have:val l=0:=x8.1 (kR om);exact zC (by grind [n9])}
 ·(cbv;have h0:val l≠0:=fun e=>h (by rw[e,yZ];rfl);have hp:0<(zK (val l)).length:=om;refine⟨zD om om,zD om om,zD om om,xG ((zK (val l)).length-1) om om ?_⟩;cbv;have h3:=dT (x:=((zK (val l)).getD ((zK (val l)).length-1) 0).toNat) (yL _);have h5:gC (val l)=32*((zK (val l)).length-1)+Lib.bitLen ((zK (val l)).getD ((zK (val l)).length-1) 0).toNat:=by rw[gC,if_neg h0]);refine cA (s228 ((zK (val l)).getD ((zK (val l)).length-1) 0).toNat (yL _)) ?_
  generalize Lib.bitLen ((zK (val l)).getD ((zK (val l)).length-1) 0).toNat=t at *
  cbv;refine⟨zD om om,?_⟩;refine jZ rfl ?_ rfl;exact zC (by rw[h5];(try dsimp only [zF] at *);grind [zH])
theorem zMD {a b:Nat}(ha:a<18446744073709551616)(hb:b<18446744073709551616):ior .u64 (a:Int) (b:Int)=((a ||| b:Nat):Int):=by
 unfold ior;have h1:a ||| b<2^64:=zLD ha hb;have key:(BitVec.ofInt 64 (a:Int) ||| BitVec.ofInt 64 (b:Int)).toNat=a ||| b:=by grind
 show IntKind.u64.wrap ((BitVec.ofInt 64 (a:Int) ||| BitVec.ofInt 64 (b:Int)).toNat:Int)=_;rw[key];have:=uM ((a ||| b:Nat):Int);grind [nx]
theorem or2 {a b:Nat}(ha:a<4294967296)(hb:b<4294967296):ior .u64 (a:Int) (ishl .u64 (nx .u64 (b:Int)) 32)=((a+4294967296*b:Nat):Int):=by have h1:=rX (a:=b) (k:=32) oM oM;rw[x5 oM];show ior .u64 (a:Int) (ishl .u64 (b:Int) ((32:Nat):Int))=_;rw[h1,zMD oM oM,qY b,pL (k:=32) ha]
theorem or2' {a b:Nat}(ha:a<4294967296)(hb:b<4294967296):ior .u64 (ishl .u64 (b:Int) 32) (nx .u64 (a:Int))=((a+4294967296*b:Nat):Int):=by have h1:=rX (a:=b) (k:=32) oM oM;rw[x5 oM];show ior .u64 (ishl .u64 (b:Int) ((32:Nat):Int)) (a:Int)=_;rw[h1,zMD oM oM,qY b,Nat.or_comm,pL (k:=32) ha]
theorem len2 {n:Nat}:(zK n).length<=2↔n<B*B:=by constructor;{intro h;have h1:=xZ (zK n);rw[zO] at h1;have:=dE w5 h;grind};{intro h;exact yF (by grind)}
theorem s231 (l:List UInt32)(hl:l.length<2^40):zE 301 [nat l] (.tup [.int .u64 (fun _=>((if val l<B*B then val l else 0:Nat):Int)),.bool (fun _=>decide (val l<B*B))]):=by
 refine sF Tryz.f301 ?_;have hl':=xP (zX l) hl;cbv;refine cA (cL l oM) ?_;cbv;refine zG (fun h=>?_) (fun h=>?_)
 ·(cbv;have h1:¬val l<B*B:=fun h1=>by have:=len2.2 h1;(try dsimp only [zF] at *);grind [zH]);refine jZ rfl ?_ rfl
  exact⟨zC (by grind),zM (decide_eq_false h1),trivial⟩
 ·have h2:(zK (val l)).length<=2:=om;have h1:val l<B*B:=len2.1 h2;have hv:=zO (val l);generalize zK (val l)=p at *
  cbv;refine z3 (σ:=Nat) (fun s=>⟨[(0,nat p),(4,.int .u64 (fun _=>(val (p.take s):Int))),(12,nat p),(13,.int .i64 (fun _=>(p.length:Int))),(14,.int .i64 (fun _=>(s:Int)))],[]⟩)
   (fun s=>s<=p.length) (fun s=>p.length-s) 0 om (.le ?_ trivial rfl) ?_
  {cbv;exact⟨lR,lR,lR,zC (by (try dsimp only [zF] at *) <;> (grind [zH]) <;> omega),lR,trivial⟩};intro i hi;cbv;refine zG (fun h5=>?_) (fun h5=>?_)
  ·cbv;refine xG i (by (grind) <;> (try simp only[zH] at *) <;> omega) om ?_;cbv;refine⟨zD om om,uF om,zD om om,i+1,om,om,.le ?_ trivial rfl⟩;cbv;have hd:=yL (p.getD i 0);have hv1:=wY p i;have hv2:=zW p i;refine⟨lR,zC ?_,lR,lR,zC om,trivial⟩;have hi2:i=0\/i=1:=om;simp only[B] at hd;rcases hi2 with rfl|rfl
   ·(rw[hv2];simp only[val,List.take_zero,zLB,Nat.one_mul];have e:=or2 (a:=0) (b:=0) oM oM;have h9:ishl .u64 (nx .u64 ((p.getD 0 0).toNat:Int)) (32*((0:Nat):Int))=((p.getD 0 0).toNat:Int):=by grind [rX,x5]);grind [zMD]
   {rw[hv2];rw[Nat.pow_one] at hv1 ⊢;have:=or2 (a:=val (p.take 1)) (b:=(p.getD 1 0).toNat) hv1 oM;show ior .u64 (val (p.take 1):Int) (ishl .u64 (nx .u64 ((p.getD 1 0).toNat:Int)) 32)=_;rw[this];rfl}
  {cbv;refine jZ rfl ?_ rfl;have:i=p.length:=om;subst this;rw[yS (zZ _)];exact⟨zC (by grind),yN (decide_eq_true h1),trivial⟩}
theorem zQ1 {bi b1 Y s:Nat}(hs:s<32)(hb:bi<B)(h1:b1=Y%B):(bi+B*Y)/2^s=((bi+B*b1)/2^s)%B+B*(Y/2^s):=by
 have hP:0<2^s:=zHA s;have hB:B=2^s*2^(32-s):=by
  (rw[<-bD];have:s+(32-s)=32:=by omega);rw[this];rfl
 have key:∀ y,(bi+B*y)/2^s=(bi+B*(y%2^s))/2^s+B*(y/2^s):=by
  (intro y;have e:bi+B*y=(bi+B*(y%2^s))+2^s*(B*(y/2^s)):=by grind [Nat.mod_add_div]);rw[e,yAX _ _ hP]
 have hmod:b1%2^s=Y%2^s:=by simp_all
 have hlt:(bi+B*(Y%2^s))/2^s<B:=by rw[zC2 hP];have h2:=uH Y hP;grind [B]
 grind [Nat.add_mul_mod_self_left,Nat.mod_eq_of_lt]
theorem zRU {a k:Nat}(hk:k<=64):ishr .u64 (a:Int) (k:Int)=((a/2^k:Nat):Int):=by grind [ishr,IntKind.bits]
theorem uN {a b:Nat}:irem (a:Int) (b:Int)=((a%b:Nat):Int):=by grind [irem]
theorem oT {a b:Nat}:iquo (a:Int) (b:Int)=((a/b:Nat):Int):=by grind [iquo]
theorem pH {l:List UInt32}(j:Nat):(l.getD j 0).toNat=val (l.drop j)%B:=by rcases uQ j l.length with h|h;{rw[kT h,zXA,qU (yL _)]};{rw[zG9 h];simp[bE h,val]}
theorem zEZ (n k:Nat):val ((zK n).drop (k/32))/2^(k%32)=n/2^k:=by
 have e:val ((zK n).drop (k/32))=n/B^(k/32):=by rcases uQ (zK n).length (k/32) with h|h;{rw[zG9 oM];have h1:=xZ (zK n);rw[zO] at h1;have:=dE w5 (zCZ h);rw[zMN oM];rfl};{have h1:=eE (l:=zK n) (k/32) h;rw[zO] at h1;have h2:=wY (zK n) (k/32);grind [Nat.add_mul_div_left,Nat.div_eq_of_lt]}
 rw[e,Nat.div_div_eq_div_mul];congr 1;show (2^32)^(k/32)*2^(k%32)=2^k;rw[<-i4,<-bD];grind
theorem zFF {z:Int}(h1:-9223372036854775808<=z)(h2:z<9223372036854775808):nx .i64 z=z:=by grind [nx,IntKind.wrap,IntKind.signed,IntKind.bits]
theorem s237 (a:List UInt32)(k:Nat)(ha:a.length<2^40)(hk:k<=1048576):zE 307 [nat a,.int .i64 (fun _=>(k:Int))] (.tup [nat (zK (val a/2^k)),.int .i64 (fun _=>0)]):=by
 refine sF Tryz.f307 ?_;have ha':=xP (zX a) ha;have hdp:=zEZ (val a) k;have hq:iquo (k:Int) 32=((k/32:Nat):Int):=oT (b:=32);have hr:irem (k:Int) 32=((k%32:Nat):Int):=uN (b:=32);have hni:nx .i64 (iquo (k:Int) 32)=((k/32:Nat):Int):=by grind [zFF]
 cbv;refine zQ (fun h=>om) (fun h=>?_);cbv;refine zG (fun h=>om) (fun h=>?_);cbv;refine cA (cL a oM) ?_;generalize hp:zK (val a)=p at *
 cbv;refine⟨uA oM,?_⟩;refine zG (fun h2=>?_) (fun h2=>?_)
 ·cbv
  (try dsimp only [zF] at *)
  rw[hni] at h2;refine jZ rfl ?_ rfl;refine⟨yW ?_,lR,trivial⟩;rw[zG9 (by grind [zH])] at hdp;rw[<-hdp];simp[val,yZ,lm]
 ·(try dsimp only [zF] at *)
  rw[hni] at h2;cbv;have hkl:k/32<p.length:=om;refine⟨uA oM,u9 om om (Int.le_refl _),iJ p,?_⟩;have hsl:((lm p).take (((lm p).length:Nat):Int).toNat).drop (nx .i64 (iquo (k:Int) 32)).toNat=lm (p.drop (k/32)):=by rw[hni,mW,mW,yS (zZ _),zVW]
  (try dsimp only [zF] at *)
  (rw[hsl];have hbl:(p.drop (k/32)).length<2^40:=by grind);generalize p.drop (k/32)=b at *
  cbv;refine⟨yD om om,jO om om,?_⟩;cbv;refine z3 (σ:=Nat×List UInt32) (fun s=>⟨[(0,nat b),(1,.int .i64 (fun _=>(k:Int))),(6,.osl 29 1 (fun _=>0) (fun _=>b.length)),(30,nat b),(31,.int .i64 (fun _=>(b.length:Int))),(32,.int .i64 (fun _=>(s.1:Int)))],[(29,.arr 1 (fun _=>lm s.2))]⟩)
   (fun s=>s.1<=b.length/\s.2.length=b.length/\val (s.2.take s.1)+B^s.1*(val (b.drop s.1)/2^(k%32))=val b/2^(k%32)) (fun s=>b.length-s.1)
   (0,List.replicate b.length 0) ⟨om,by simp,by simp[val]⟩ (.le ?_ ?_ rfl) ?_
  {cbv;exact⟨lR,lR,yC rfl om,lR,zC (by (try dsimp only [zF] at *) <;> (grind [zH]) <;> omega),lR,trivial⟩}
  ·(cbv;refine⟨zI ?_,trivial⟩;show List.replicate (((lm b).length:Int)).toNat _=_;have:(((lm b).length:Int)).toNat=b.length:=by grind [zH]);rw[this]
   simp[lm,wB,toD]
  intro s hs;obtain⟨h1,h3,h4⟩:=hs;generalize s.1=i at *
  generalize s.2=out at *
  cbv;refine zG (fun h5=>?_) (fun h5=>?_)
  ·cbv;refine xG i (by (grind) <;> (try simp only[zH] at *) <;> omega) om ?_;cbv;have hd:=yL (b.getD i 0);have hd1:=yL (b.getD (i+1) 0);have hks:k%32<32:=uH _ oM;refine⟨zD om om,?_⟩;refine fX (σ:=Unit) (fun _=>⟨[(0,nat b),(1,.int .i64 (fun _=>(k:Int))),(6,.osl 29 1 (fun _=>0) (fun _=>b.length)),(7,.int .i64 (fun _=>(i:Int))),(9,.int .u64 (fun _=>(((b.getD i 0).toNat+4294967296*(b.getD (i+1) 0).toNat:Nat):Int))),(30,nat b),(31,.int .i64 (fun _=>(b.length:Int))),(32,.int .i64 (fun _=>(i:Int)))],[(29,.arr 1 (fun _=>lm out))]⟩) (fun _=>True) (fun h6=>?_) (fun h6=>?_) ?_
   ·cbv;refine⟨zD om om,xG (i+1) om om ?_⟩;cbv;refine⟨uF oM,(),trivial,.le ?_ ?_ rfl⟩
    ·cbv;refine⟨lR,lR,lR,lR,zC ?_,lR,lR,lR,trivial⟩
     (try dsimp only [zF] at *)
     rw[x5 (n:=(b.getD i 0).toNat) (by grind [B])];exact or2 hd hd1
    {cbv;exact⟨zI rfl,trivial⟩}
   ·cbv;refine⟨(),trivial,.le ?_ ?_ rfl⟩
    ·cbv;refine⟨lR,lR,lR,lR,zC ?_,lR,lR,lR,trivial⟩;have:(b.getD (i+1) 0).toNat=0:=by have:b.length<=i+1:=om;simp_all
     (try dsimp only [zF] at *)
     grind [x5,B]
    {cbv;exact⟨zI rfl,trivial⟩}
   intro _ _;have hY:(b.getD (i+1) 0).toNat=val (b.drop (i+1))%B:=pH _;have hX:=kT (l:=b) (i:=i) om;have hst:=zQ1 (bi:=(b.getD i 0).toNat) hks hd hY;rw[<-hX] at hst;generalize hw:(b.getD i 0).toNat+4294967296*(b.getD (i+1) 0).toNat=w at *
   have hw':(b.getD i 0).toNat+B*(b.getD (i+1) 0).toNat=w:=hw;rw[hw'] at hst;cbv;refine⟨uA oM,uF om,y9 om om,j8 i (by simp) om ?_⟩;cbv;refine⟨zD om om,(i+1,out.set i (UInt32.ofNat (w/2^(k%32)))),⟨om,by grind,?_⟩,om,.le ?_ ?_ rfl⟩;{show val ((out.set i _).take (i+1))+B^(i+1)*_=_;rw[u7 _ om,xW,<-h4,hst,qH,uG,jX,lV]};{cbv;exact⟨lR,lR,lR,lR,lR,zC om,trivial⟩}
   ·(cbv;refine⟨zI ?_,trivial⟩;have e:ishr .u64 (w:Int) (irem (k:Int) 32)=((w/2^(k%32):Nat):Int):=by rw[hr];exact zRU oM);show (lm out).set (0+(i:Int).toNat) [.int .u32 (nx .u32 (ishr .u64 (w:Int) (irem (k:Int) 32)))]=_
    rw[e];exact fE out (by simp) _
  {cbv;have hi:i=b.length:=om;subst hi;refine kQ (.trans (.le (ps':=⟨[(62,.osl 29 1 (fun _=>0) (fun _=>b.length))],[(29,.arr 1 (fun _=>lm out))]⟩) ?_ ?_ rfl) (.frz 29 rfl rfl ?_ ?_)) rfl (by refine⟨zR ?_,trivial⟩;grind [zH]) (cL out oM) rfl ?_;{cbv;exact okA};{cbv;exact⟨zI rfl,trivial⟩};{cbv;exact⟨z8 (by grind [zH]),trivial⟩};{exact trivial};cbv;refine jZ rfl ?_ rfl;refine⟨zR ?_,lR,trivial⟩;rw[yS oM,zG9 (zZ _)] at h4;congr 2;rw[<-hdp,<-h4];simp[val]}
theorem zBV (n:Nat)(m:Int)(h:m=n):(List.replicate m.toNat (wB [.int .u32 (fun _=>0)]):List (List D))=lm (List.replicate n 0):=by subst h;simp[lm,wB,toD]
theorem eD {l:List UInt32}{i:Nat}(h:i<l.length)(x:UInt32):val ((l.set i x).drop i)=x.toNat+B*val (l.drop (i+1)):=by grind [kT,List.drop_set_of_lt]
theorem s232 (a:List UInt32)(d:Nat)(ha:a.length<2^40)(hd:d<B)(hd0:0<d):zE 302 [nat a,.int .u32 (fun _=>(d:Int))] (.tup [nat (zK (val a/d)),nat (zK (val a%d))]):=by
 have hdd:nx .u64 (d:Int)=(d:Int):=x5 (by grind [B]);refine sF Tryz.f302 ?_;cbv;refine⟨yD om om,jO om om,?_⟩;cbv;refine⟨zD om om,?_⟩;refine z3 (σ:=Nat×Nat×List UInt32) (fun s=>⟨[(0,nat a),(1,.int .u32 (fun _=>(d:Int))),(6,.osl 11 1 (fun _=>0) (fun _=>a.length)),(7,.int .u64 (fun _=>(s.2.1:Int))),(8,.int .i64 (fun _=>(s.1:Int)-1))],[(11,.arr 1 (fun _=>lm s.2.2))]⟩)
  (fun s=>s.1<=a.length/\s.2.1<d/\s.2.2.length=a.length/\val (a.drop s.1)=d*val (s.2.2.drop s.1)+s.2.1) (fun s=>s.1)
  (a.length,0,List.replicate a.length 0) ⟨om,hd0,by simp,by simp[val]⟩ (.le ?_ ?_ rfl) ?_
 {cbv;exact⟨lR,lR,yC rfl om,lR,zC (by (try dsimp only [zF] at *) <;> (grind [zH]) <;> omega),trivial⟩};{cbv;exact⟨zI (zBV a.length _ (by (try dsimp only [zF] at *) <;> (grind [zH]) <;> omega)),trivial⟩};intro s hs;obtain⟨h1,h2,h3,h4⟩:=hs;generalize s.1=n at *
 generalize s.2.1=r at *
 generalize s.2.2=out at *
 cbv;refine zG (fun h5=>?_) (fun h5=>?_)
 ·(try dsimp only [zF] at *)
  obtain⟨m,rfl⟩:∃ m,n=m+1:=⟨n-1,by omega⟩;cbv;have hx:=yL (a.getD m 0);refine⟨uF oM,xG m om om ?_⟩;have hX:=kT (l:=a) (i:=m) om;generalize hxx:(a.getD m 0).toNat=x at *
  (have hT:ior .u64 (ishl .u64 (r:Int) 32) (nx .u64 (x:Int))=((x+B*r:Nat):Int):=by have:=or2' (a:=x) (b:=r) hx (by grind [B]);exact this);have hlt:x+B*r<d*B:=by have:=wG B (show r+1<=d from h2);rw[qH,qY B d] at this;omega
  (have hq:(x+B*r)/d<B:=by rw[zC2 hd0,qY B d];exact hlt);have hdB:d*B<=B*B:=qV B (zCZ hd)
  have hr:=uH (x+B*r) hd0;have hdm:=Nat.div_add_mod (x+B*r) d;generalize hqq:(x+B*r)/d=q at *
  generalize hrr:(x+B*r)%d=r' at *
  (have hQ:iquo (ior .u64 (ishl .u64 (r:Int) 32) (nx .u64 (x:Int))) (nx .u64 (d:Int))=(q:Int):=by rw[hT,hdd,oT,hqq]);have hR:irem (ior .u64 (ishl .u64 (r:Int) 32) (nx .u64 (x:Int))) (nx .u64 (d:Int))=(r':Int):=by rw[hT,hdd,uN,hrr]
  cbv;refine⟨uA om,y9 om om,j8 m om om ?_⟩;cbv;refine⟨uA om,zD om om,(m,r',out.set m (UInt32.ofNat q)),⟨om,hr,by grind,?_⟩,om,.le ?_ ?_ rfl⟩;{show val (a.drop m)=d*val ((out.set m _).drop m)+r';rw[hX,h4,eD om,xW,qU hq,qH B,qH d,Nat.mul_left_comm B d];omega};{cbv;exact⟨lR,lR,lR,zC hR,zC om,trivial⟩}
  ·cbv;refine⟨zI (fD out (j:=m) ?_ ?_ hq),trivial⟩
   ·(try dsimp only [zF] at *);omega
   {show nx .u32 (nx .u64 (iquo (ior .u64 (ishl .u64 (r:Int) 32) (nx .u64 (x:Int))) (nx .u64 (d:Int))))=(q:Int);simp only[B] at hq;grind [x5,gP]}
 ·cbv;have hn:n=0:=om;subst hn;refine kQ (.trans (.le (ps':=⟨[(7,.int .u64 (fun _=>(r:Int))),(39,.osl 11 1 (fun _=>0) (fun _=>a.length))],[(11,.arr 1 (fun _=>lm out))]⟩) ?_ ?_ rfl) (.frz 11 rfl rfl ?_ ?_)) rfl (by refine⟨zR ?_,trivial⟩;grind [zH]) (cL out oM) rfl ?_;{cbv;exact okA};{cbv;exact⟨zI rfl,trivial⟩};{cbv;exact⟨z8 (by grind [zH]),trivial⟩};{exact trivial};cbv;have hrB:r<B*B:=by grind [B]
  (refine cA (s211 r hrB) ?_;cbv;refine jZ rfl ?_ rfl;simp only[wC] at h4;have e1:val a/d=val out:=(Nat.div_eq_of_lt_le (by grind) (by grind));have e2:val a%d=r:=by rw[h4,Nat.mul_add_mod];exact qU h2);exact⟨zR (by rw[e1]),zR (by rw[e2]),trivial⟩
theorem zZ0 {pre x post:List UInt32}{j:Nat}(h:j<x.length):(pre++(x++post)).getD (pre.length+j) 0=x.getD j 0:=by grind
theorem sC {pre x post:List UInt32}{i:Nat}{K:List PV->Prop}(j:Nat)(hi:i=pre.length+j)(hj:j<x.length)(hK:K [.int .u32 (fun _=>((x.getD j 0).toNat:Int))]):ElOk 1 (fun _=>lm (pre++(x++post))) (fun _=>i) K:=by refine j8 (pre.length+j) hi (by grind) ?_;grind
theorem lL {rs:List ResultVar}{r:PV}{ps:PS}{l:List PV}{n:Nat}{o:Obj'}(h1:dJ ps rs=some l)(h2:les (lD l) (ren id r))(h3:lv r=true)(h4:yG ps.objs n=some o)(h5:cR o=true)(h6:Nat.ble 1000000 n=true):RetOk rs r [(n,o)] [] ps :=
 ⟨ps,l,id,.refl ps,h1,dO h2,h3,⟨⟨by grind [zED],h5⟩,trivial⟩,rfl,⟨rfl,Nat.le_of_ble_eq_true h6⟩,trivial⟩
theorem zBS {rs:List ResultVar}{r:PV}{ps ps':PS}{l:List PV}{n:Nat}{o:Obj'}(hw:Wk ps ps')(h1:dJ ps' rs=some l)(h2:les (lD l) (ren id r))(h3:lv r=true)(h4:yG ps'.objs n=some o)(h5:cR o=true)(h6:Nat.ble 1000000 n=true):RetOk rs r [(n,o)] [] ps :=
 ⟨ps',l,id,hw,h1,dO h2,h3,⟨⟨by grind [zED],h5⟩,trivial⟩,rfl,⟨rfl,Nat.le_of_ble_eq_true h6⟩,trivial⟩
theorem zP0 {v1 v2 u2 q r:Nat}(hr:r<B)(hv:0<v1)(h:¬(B<=q\/r*B+u2<q*v2)):lG v1 v2 u2 q r=q:=by rw[lG,dif_neg oM,if_neg h]
theorem zR2 {v1 v2 u2 q r:Nat}(hr:r<B)(hv:0<v1)(h:B<=q\/r*B+u2<q*v2)(h2:B<=r+v1):lG v1 v2 u2 q r=q-1:=by rw[lG,dif_neg oM,if_pos h,if_pos h2]
theorem zV2 {v1 v2 u2 q r:Nat}(hr:r<B)(hv:0<v1)(h:B<=q\/r*B+u2<q*v2)(h2:¬B<=r+v1):lG v1 v2 u2 q r=lG v1 v2 u2 (q-1) (r+v1):=by rw[lG,dif_neg oM,if_pos h,if_neg h2]
abbrev kx (pre x post:List UInt32):List (Nat×Obj'):=[(1000000,.arr 1 (fun _=>lm (pre++(x++post))))]
theorem s236 (pre x post v:List UInt32)(n:Nat)(hx:x.length=n+3)(hv:v.length=n+2)(hn:n<2^40)(hp:pre.length<2^40)(hnorm:B<=2*(v.getD (n+1) 0).toNat)(hle:(x.getD (n+2) 0).toNat<=(v.getD (n+1) 0).toNat):Sound 306 [.osl 1000000 1 (fun _=>pre.length) (fun _=>n+3),nat v] (kx pre x post) [] (.int .u64 (fun _=>((lG (v.getD (n+1) 0).toNat (v.getD n 0).toNat (x.getD n 0).toNat (((x.getD (n+2) 0).toNat*B+(x.getD (n+1) 0).toNat)/(v.getD (n+1) 0).toNat) (((x.getD (n+2) 0).toNat*B+(x.getD (n+1) 0).toNat)%(v.getD (n+1) 0).toNat):Nat):Int))) (kx pre x post) []:=by
 refine sF Tryz.f306 ?_;have hu0:=yL (x.getD (n+2) 0);have hu1:=yL (x.getD (n+1) 0);have hu2:=yL (x.getD n 0);have hv1:=yL (v.getD (n+1) 0);have hv2:=yL (v.getD n 0);have hB:B=4294967296:=rfl;generalize hxa:(x.getD (n+2) 0).toNat=xa at *
 generalize hxb:(x.getD (n+1) 0).toNat=xb at *
 generalize hxc:(x.getD n 0).toNat=xc at *
 generalize hva:(v.getD (n+1) 0).toNat=va at *
 generalize hvb:(v.getD n 0).toNat=vb at *
 have hT:ior .u64 (ishl .u64 (nx .u64 (xa:Int)) 32) (nx .u64 (xb:Int))=((xa*B+xb:Nat):Int):=by rw[x5 (n:=xa) oM,or2' hu1 hu0,qY xa,zE5];rfl
 have hva0:0<va:=by omega
 have hq0:(xa*B+xb)/va<=B+1:=by
  (have:xa*B+xb<(B+2)*va:=by have h1:=qV B hle;rw[gF,qY B va];omega);have:=(zC2 hva0).2 this;omega
 have hr0:(xa*B+xb)%va<B:=bC (uH _ hva0) hv1;generalize hQ:lG va vb xc ((xa*B+xb)/va) ((xa*B+xb)%va)=Q;have hq':iquo ((xa*B+xb:Nat):Int) (va:Int)=(((xa*B+xb)/va:Nat):Int):=oT;have hr':irem ((xa*B+xb:Nat):Int) (va:Int)=(((xa*B+xb)%va:Nat):Int):=uN;generalize hq0':(xa*B+xb)/va=q0 at *
 generalize hr0':(xa*B+xb)%va=r0 at *
 generalize (xa*B+xb:Nat)=top at *
 have hvn:nx .u64 (va:Int)=(va:Int):=x5 oM;cbv;refine zN 13 (by cbv) ?_;cbv;refine⟨y9 om om,sC (n+2) om om ?_⟩;cbv;refine⟨uF oM,zD om om,y9 om om,sC (n+1) om om ?_⟩;cbv;refine zN 18 (by cbv) ?_;cbv;refine⟨zD om om,xG (n+1) om om ?_⟩;cbv;refine⟨uA (by (try dsimp only [zF] at *);grind),zD om om,xG (n+1) om om ?_⟩;cbv;refine⟨uA (by (try dsimp only [zF] at *);grind),?_⟩;refine z3 (σ:=Nat×Nat) (fun s=>⟨[(0,.osl 1000000 1 (fun _=>pre.length) (fun _=>n+3)),(1,nat v),(5,.int .i64 (fun _=>((n+2:Nat):Int))),(7,.int .u64 (fun _=>(s.1:Int))),(8,.int .u64 (fun _=>(s.2:Int)))],kx pre x post⟩)
  (fun s=>s.1<=B+1/\s.2<B/\lG va vb xc s.1 s.2=Q) (fun s=>B-s.2)
  (q0,r0) ⟨hq0,hr0,hQ⟩ (.le ?_ ?_ rfl) ?_
 ·cbv;refine⟨lR,lR,zC om,zC ?_,zC ?_,trivial⟩
  ·(try dsimp only [zF] at *)
   grind [x5]
  ·(try dsimp only [zF] at *)
   grind
 {cbv;exact⟨zI rfl,trivial⟩};intro s hs;obtain⟨h1,h2,h3⟩:=hs;generalize s.1=q at *
 generalize s.2=r at *
 have hround:(B<=q\/r*B+xc<q*vb)->0<q:=by grind
 have hq1:0<q->nx .u64 ((q:Int)-1)=((q-1:Nat):Int):=fun h=>by grind [uM]
 have hr1:nx .u64 ((r:Int)+(va:Int))=((r+va:Nat):Int):=by grind [uM]
 cbv;refine zN 22 (by cbv) ?_;cbv;have fin:(B<=q\/r*B+xc<q*vb)->∀ (K:Prop),(B<=r+va->Q=q-1->K)->(¬B<=r+va->(lG va vb xc (q-1) (r+va)=Q/\q-1<=B+1/\r+va<B/\B-(r+va)<B-r)->K)->K:=by intro hc K k1 k2;by_cases h4:B<=r+va;{grind [zR2]};grind [zV2]
 refine zQ (fun h4=>?_) (fun h4=>?_)
 ·(have hc:B<=q\/r*B+xc<q*vb:=.inl (by rw[hB];exact om);cbv;refine⟨zD om om,xG (n+1) om om ?_⟩;have hz:nx .u64 ((r:Int)+nx .u64 (((v.getD (n+1) 0).toNat:Nat):Int))=((r+va:Nat):Int):=by grind);have hz2:=hq1 (hround hc)
  cbv
  (try dsimp only [zF] at *)
  refine fin hc _ (fun h6 h7=>?_) (fun h6 h7=>?_);{refine zG (fun h8=>?_) (fun h8=>absurd h8 oM);cbv;exact lL rfl (zC (by grind)) rfl rfl rfl rfl};{refine zG (fun h8=>absurd h8 oM) (fun h8=>?_);cbv;refine⟨(q-1,r+va),⟨h7.2.1,h7.2.2.1,h7.1⟩,h7.2.2.2,.le ?_ ?_ rfl⟩;{cbv;exact⟨lR,lR,lR,zC hz2,zC hz,trivial⟩};{cbv;exact⟨zI rfl,trivial⟩}}
 ·(cbv;refine⟨zD om om,xG n om om ?_⟩;cbv;refine⟨uF om,zD om om,y9 om om,sC n om om ?_⟩;have hq2:q<B:=by rw[hB];exact om);have hm1:nx .u64 ((q:Int)*nx .u64 (((v.getD n 0).toNat:Nat):Int))=((q*vb:Nat):Int):=by rw[hvb,x5 (n:=vb) oM];have:q*vb<4294967296*4294967296:=zLC oM oM;exact x5 oM
  (have hm2:ior .u64 (ishl .u64 (r:Int) 32) (nx .u64 (((x.getD n 0).toNat:Nat):Int))=((r*B+xc:Nat):Int):=by grind [or2']);cbv
  (try dsimp only [zF] at *)
  refine zG (fun h5=>?_) (fun h5=>?_)
  ·(have hc:B<=q\/r*B+xc<q*vb:=.inr oM;cbv;refine⟨zD om om,xG (n+1) om om ?_⟩;have hz:nx .u64 ((r:Int)+nx .u64 (((v.getD (n+1) 0).toNat:Nat):Int))=((r+va:Nat):Int):=by grind);have hz2:=hq1 (hround hc)
   cbv
   (try dsimp only [zF] at *)
   refine fin hc _ (fun h6 h7=>?_) (fun h6 h7=>?_);{refine zG (fun h8=>?_) (fun h8=>absurd h8 oM);cbv;exact lL rfl (zC (by grind)) rfl rfl rfl rfl};{refine zG (fun h8=>absurd h8 oM) (fun h8=>?_);cbv;refine⟨(q-1,r+va),⟨h7.2.1,h7.2.2.1,h7.1⟩,h7.2.2.2,.le ?_ ?_ rfl⟩;{cbv;exact⟨lR,lR,lR,zC hz2,zC hz,trivial⟩};{cbv;exact⟨zI rfl,trivial⟩}}
  ·(have hc:¬(B<=q\/r*B+xc<q*vb):=by omega);have hs:=zP0 h2 hva0 hc
   cbv;exact lL rfl (zC (by grind)) rfl rfl rfl rfl
theorem zNU {pre x post:List UInt32}{j:Nat}(h:j<x.length)(w:UInt32):(pre++(x++post)).set (pre.length+j) w=pre++(x.set j w++post):=by grind
theorem zM7 {pre x post:List UInt32}{j w k:Nat}{z:Int}(hk:k=pre.length+j)(h:j<x.length)(hz:z=(w:Int))(hw:w<B):(lm (pre++(x++post))).set k [.int .u32 z]=lm (pre++(x.set j (UInt32.ofNat w)++post)):=by rw[<-zNU h];grind [fD]
theorem zPK {pre x post:List UInt32}{j S k:Nat}(hk:k=pre.length+j)(h:j<x.length):(lm (pre++(x++post))).set k [.int .u32 (nx .u32 ((S:Nat):Int))]=lm (pre++(x.set j (UInt32.ofNat S)++post)):=by rw[<-zNU h];grind [fE]
theorem zJN {u lo b:Nat}(hu:u<B)(hlo:lo<=B)(hb:b<2)(hlb:lo+b<=B):∃ w b':Nat,w<B/\b'<2/\u+B*b'=w+lo+b /\ nx .u64 (nx .u64 ((u:Int)-(lo:Int))-(b:Int))=(if b'=0 then (w:Int) else (w:Int)+18446744069414584320):=by
 simp only[B] at *
 by_cases h:u<lo+b;{refine⟨u+4294967296-lo-b,1,by omega,by omega,by omega,?_⟩;simp only[uM];omega};{refine⟨u-lo-b,0,by omega,by omega,by omega,?_⟩;simp only[uM];grind}
theorem zNP {w b':Nat}(hw:w<B)(hb:b'<2):ishr .u64 (if b'=0 then (w:Int) else (w:Int)+18446744069414584320) 63=(b':Int):=by grind [B,zTA]
theorem zJ5 {w b':Nat}(hw:w<B):nx .u32 (if b'=0 then (w:Int) else (w:Int)+18446744069414584320)=(w:Int):=by grind [B,gP]
theorem zVQ {P R t s:Nat}(ht:t<P)(hR:R<P)(h:t+P*s=P*B+R):s=B/\t=R:=by rcases Nat.lt_trichotomy s B with h1|h1|h1;{have:=wG P (show s+1<=B from h1);rw[qH] at this;omega};{subst h1;omega};{have:=wG P (show B+1<=s from h1);rw[qH] at this;omega}
theorem s235 (pre x post v:List UInt32)(n q:Nat)(hx:x.length=n+1)(hv:v.length=n)(hn:n<2^40)(hp:pre.length<2^40)(hq:q<B)(hhi:q*val v<=val x+val v):Sound 305 [.osl 1000000 1 (fun _=>pre.length) (fun _=>n+1),nat v,.int .u64 (fun _=>(q:Int))] (kx pre x post) [] (.int .u32 (fun _=>((zE4 (val x) (val v) q:Nat):Int))) (kx pre (pad (val x-zE4 (val x) (val v) q*val v) (n+1)) post) []:=by
 refine sF Tryz.f305 ?_;have hB:B=4294967296:=rfl;have hBB:B*B=18446744073709551616:=by decide
 have hV:=xZ v;rw[hv] at hV;have hdig:zE4 (val x) (val v) q=if q*val v<=val x then q else q-1:=rfl
 generalize hD:zE4 (val x) (val v) q=D at *
 generalize hF:pad (val x-D*val v) (n+1)=F;cbv;refine z3 (σ:=Nat×Nat×Nat×List UInt32) (fun s=>⟨[(0,.osl 1000000 1 (fun _=>pre.length) (fun _=>n+1)),(1,nat v),(2,.int .u64 (fun _=>(q:Int))),(7,.int .u64 (fun _=>(s.2.1:Int))),(8,.int .u64 (fun _=>(s.2.2.1:Int))),(15,nat v),(16,.int .i64 (fun _=>(n:Int))),(17,.int .i64 (fun _=>(s.1:Int)))],kx pre s.2.2.2 post⟩)
  (fun s=>s.1<=n/\s.2.1<B/\s.2.2.1<2/\s.2.2.2.length=n+1/\s.2.2.2.drop s.1=x.drop s.1/\val (s.2.2.2.take s.1)+q*val (v.take s.1)=val (x.take s.1)+B^s.1*(s.2.1+s.2.2.1)) (fun s=>n-s.1)
  (0,0,0,x) ⟨om,w5,by grind,hx,rfl,by simp[val]⟩ (.le ?_ ?_ rfl) ?_
 {cbv;exact⟨lR,lR,lR,lR,lR,lR,zC om,lR,trivial⟩};{cbv;exact⟨zI rfl,trivial⟩};intro s hs;obtain⟨h1,h2,h3,h4,h5,h6⟩:=hs;generalize s.1=i at *
 generalize s.2.1=c at *
 generalize s.2.2.1=b at *
 generalize s.2.2.2=y at *
 cbv;refine zG (fun h7=>?_) (fun h7=>?_)
 ·(have hin:i<n:=om;have hyx:y.getD i 0=x.getD i 0:=by have:=congrArg (fun l=>l.getD 0 0) h5;grind);have hd:=yL (v.getD i 0);have hu:=yL (x.getD i 0);have hCl:c+q*(v.getD i 0).toNat<B*B:=by have h8:q*(v.getD i 0).toNat<=(B-1)*(B-1):=Nat.mul_le_mul oM oM;grind
  (obtain⟨w,b',hw,hb',hwe,hz⟩:=zJN (u:=(x.getD i 0).toNat) (lo:=(c+q*(v.getD i 0).toNat)%B) (b:=b) hu (zCZ (uH _ w5)) h3 (by grind);have hC:nx .u64 ((c:Int)+nx .u64 ((q:Int)*nx .u64 (((v.getD i 0).toNat:Nat):Int)))=((c+q*(v.getD i 0).toNat:Nat):Int):=by rw[x5 (n:=(v.getD i 0).toNat) oM];have e1:nx .u64 ((q:Int)*(((v.getD i 0).toNat:Nat):Int))=((q*(v.getD i 0).toNat:Nat):Int):=x5 (n:=q*(v.getD i 0).toNat) oM;grind [x5]);have hlo:nx .u64 (nx .u32 ((c+q*(v.getD i 0).toNat:Nat):Int))=(((c+q*(v.getD i 0).toNat)%B:Nat):Int):=by
   (rw[gP,hB];have:(((c+q*(v.getD i 0).toNat:Nat):Int)%4294967296)=(((c+q*(v.getD i 0).toNat)%4294967296:Nat):Int):=by omega);rw[this]
   exact x5 oM
  (have hui:nx .u64 (((y.getD i 0).toNat:Nat):Int)=(((x.getD i 0).toNat:Nat):Int):=by rw[hyx];exact x5 oM);have hZ:nx .u64 (nx .u64 (nx .u64 (((y.getD i 0).toNat:Nat):Int)-nx .u64 (nx .u32 (nx .u64 ((c:Int)+nx .u64 ((q:Int)*nx .u64 (((v.getD i 0).toNat:Nat):Int))))))-(b:Int))=(if b'=0 then (w:Int) else (w:Int)+18446744069414584320):=by grind
  cbv;refine xG i (by (grind) <;> (try simp only[zH] at *) <;> omega) om ?_;cbv;refine⟨y9 om om,sC i om om ?_⟩;cbv;refine⟨y9 om om,sC i om om ?_⟩;cbv;refine⟨uF oM,uF oM,zD om om,(i+1,(c+q*(v.getD i 0).toNat)/B,b',y.set i (UInt32.ofNat w)),⟨om,?_,hb',by grind,?_,?_⟩,om,.le ?_ ?_ rfl⟩;{grind};{show (y.set i _).drop (i+1)=x.drop (i+1);rw[List.drop_set_of_lt oM,<-i3,<-i3,h5]};{show val ((y.set i _).take (i+1))+q*val (v.take (i+1))=val (x.take (i+1))+B^(i+1)*((c+q*(v.getD i 0).toNat)/B+b');rw[u7 _ om,zW v,zW x,xW,qU hw,uG];grind [Nat.mod_add_div]}
  ·cbv;refine⟨lR,lR,lR,zC ?_,zC ?_,lR,lR,zC om,trivial⟩
   ·(try dsimp only [zF] at *)
    rw[hC];exact aY _
   ·(try dsimp only [zF] at *)
    rw[hZ];exact zNP hw hb'
  ·cbv;have hset:(lm (pre++(y++post))).set (pre.length+(i:Int).toNat) [.int .u32 (nx .u32 (nx .u64 (nx .u64 (nx .u64 (((y.getD i 0).toNat:Nat):Int)-nx .u64 (nx .u32 (nx .u64 ((c:Int)+nx .u64 ((q:Int)*nx .u64 (((v.getD i 0).toNat:Nat):Int))))))-(b:Int))))]=lm (pre++(y.set i (UInt32.ofNat w)++post)) :=
    zM7 (by simp) oM (by rw[hZ];exact zJ5 hw) hw
   exact⟨zI hset,trivial⟩
 ·have hin:i=n:=om;subst hin;have hyx:y.getD i 0=x.getD i 0:=by have:=congrArg (fun l=>l.getD 0 0) h5;grind
  (have hu:=yL (x.getD i 0);obtain⟨w,b',hw,hb',hwe,hz⟩:=zJN (u:=(x.getD i 0).toNat) (lo:=c) (b:=b) hu (zCZ h2) h3 oM;have hui:nx .u64 (((y.getD i 0).toNat:Nat):Int)=(((x.getD i 0).toNat:Nat):Int):=by rw[hyx];exact x5 oM);have hZ:nx .u64 (nx .u64 (nx .u64 (((y.getD i 0).toNat:Nat):Int)-(c:Int))-(b:Int))=(if b'=0 then (w:Int) else (w:Int)+18446744069414584320):=by grind
  have hTB:=zNP hw hb';have hLL:=zJ5 (w:=w) (b':=b') hw;generalize hzz:(if b'=0 then (w:Int) else (w:Int)+18446744069414584320)=zz at *
  have hi40:i<2^40:=hn;cbv;refine⟨y9 om om,sC i om om ?_⟩;cbv;refine⟨y9 om om,sC i om om ?_⟩;have hset:(lm (pre++(y++post))).set (pre.length+(((lm v).length:Nat):Int).toNat) [.int .u32 (nx .u32 (nx .u64 (nx .u64 (nx .u64 (((y.getD i 0).toNat:Nat):Int)-(c:Int))-(b:Int))))]=lm (pre++(y.set i (UInt32.ofNat w)++post)) :=
   zM7 (pre:=pre) (x:=y) (post:=post) (j:=i) (by grind [zH]) oM (by grind) hw
  (have hlen1:(y.set i (UInt32.ofNat w)).length=i+1:=by grind);have hval1:val (y.set i (UInt32.ofNat w))+q*val v=val x+B^(i+1)*b':=by have e1:=u7 y (n:=i) oM (UInt32.ofNat w);have e2:=zW x i;grind [xW,Nat.mod_eq_of_lt]
  have hlt1:=xZ (y.set i (UInt32.ofNat w));rw[hlen1] at hlt1;generalize hy1:y.set i (UInt32.ofNat w)=y1 at *
  cbv;refine⟨uF oM,?_⟩;refine zG (fun h8=>?_) (fun h8=>?_)
  ·(have hb0:b'=0:=by (try dsimp only [zF] at *);grind);subst hb0
   (have hle:q*val v<=val x:=by omega);rw[if_pos hle] at hdig
   (have hy:y1=F:=by grind [zM5]);cbv
   refine zBS (.le (ps':=⟨[(6,.int .u32 (fun _=>(D:Int)))],kx pre F post⟩) ?_ ?_ rfl) rfl (lR) rfl rfl rfl rfl;{cbv;refine⟨zC ?_,trivial⟩;grind [gP]};{cbv;refine⟨zI ?_,trivial⟩;rw[<-hy];exact hset}
  ·(have hb1:b'=1:=by (try dsimp only [zF] at *);grind);subst hb1
   (rw[pD] at hval1;have hgt:¬q*val v<=val x:=by omega);rw[if_neg hgt] at hdig
   have hq1:0<q:=by
    rcases zHB q with e|e
    all_goals simp_all
   cbv;refine z3 (σ:=Nat×Nat×List UInt32) (fun s=>⟨[(0,.osl 1000000 1 (fun _=>pre.length) (fun _=>i+1)),(1,nat v),(2,.int .u64 (fun _=>(q:Int))),(7,.int .u64 (fun _=>(s.2.1:Int))),(70,nat v),(71,.int .i64 (fun _=>(i:Int))),(72,.int .i64 (fun _=>(s.1:Int)))],kx pre s.2.2 post⟩)
    (fun s=>s.1<=i/\s.2.1<2/\s.2.2.length=i+1/\s.2.2.drop s.1=y1.drop s.1/\val (s.2.2.take s.1)+B^s.1*s.2.1=val (y1.take s.1)+val (v.take s.1)) (fun s=>i-s.1)
    (0,0,y1) ⟨om,by grind,hlen1,rfl,by simp[val]⟩ (.le ?_ ?_ rfl) ?_
   {cbv;exact⟨lR,lR,lR,lR,lR,zC (by rw[zH,hv]),lR,trivial⟩};{cbv;exact⟨zI hset,trivial⟩};intro s hs;obtain⟨k1,k2,k3,k4,k5⟩:=hs;generalize s.1=m at *
   generalize s.2.1=e at *
   generalize s.2.2=t at *
   (have htx:t.getD m 0=y1.getD m 0:=by have:=congrArg (fun l=>l.getD 0 0) k4;grind);cbv;refine zG (fun k6=>?_) (fun k6=>?_)
   ·(have hin:m<i:=om;have hd:=yL (v.getD m 0);have ht:=yL (y1.getD m 0);have hS:nx .u64 ((e:Int)+nx .u64 (nx .u64 (((t.getD m 0).toNat:Nat):Int)+nx .u64 (((v.getD m 0).toNat:Nat):Int)))=((e+((y1.getD m 0).toNat+(v.getD m 0).toNat):Nat):Int):=by grind [uM]);cbv
    refine xG m (by (grind) <;> (try simp only[zH] at *) <;> omega) om ?_;cbv;refine⟨y9 om om,sC m om om ?_⟩;cbv;refine⟨y9 om om,sC m om om ?_⟩;cbv;refine⟨uF oM,zD om om,(m+1,(e+((y1.getD m 0).toNat+(v.getD m 0).toNat))/B,t.set m (UInt32.ofNat (e+((y1.getD m 0).toNat+(v.getD m 0).toNat)))),⟨om,?_,by grind,?_,?_⟩,om,.le ?_ ?_ rfl⟩;{grind};{show (t.set m _).drop (m+1)=y1.drop (m+1);rw[List.drop_set_of_lt oM,<-i3,<-i3,k4]}
    ·show val ((t.set m _).take (m+1))+B^(m+1)*((e+((y1.getD m 0).toNat+(v.getD m 0).toNat))/B)=val (y1.take (m+1))+val (v.take (m+1));rw[u7 _ om,zW v,zW y1,xW,uG];have hdm:=zHC (e+((y1.getD m 0).toNat+(v.getD m 0).toNat)) B;generalize (e+((y1.getD m 0).toNat+(v.getD m 0).toNat))%B=lo at *
     generalize (e+((y1.getD m 0).toNat+(v.getD m 0).toNat))/B=hi at *
     grind
    ·cbv;refine⟨lR,lR,lR,zC ?_,lR,lR,zC om,trivial⟩
     (try dsimp only [zF] at *)
     rw[hS];exact aY _
    ·(cbv;have hset2:(lm (pre++(t++post))).set (pre.length+(m:Int).toNat) [.int .u32 (nx .u32 (nx .u64 ((e:Int)+nx .u64 (nx .u64 (((t.getD m 0).toNat:Nat):Int)+nx .u64 (((v.getD m 0).toNat:Nat):Int)))))]=lm (pre++(t.set m (UInt32.ofNat (e+((y1.getD m 0).toNat+(v.getD m 0).toNat)))++post)):=by rw[hS];exact zPK (by simp) oM);exact⟨zI hset2,trivial⟩
   ·(have hin:m=i:=om;subst hin;cbv;refine⟨y9 om om,sC m om om ?_⟩;cbv;refine⟨y9 om om,sC m om om ?_⟩;have hyt:=zW y1 m;rw[yS (Nat.le_of_eq hlen1)] at hyt;rw[yS (Nat.le_of_eq hv)] at k5;have htl:=wY t m;have hR:val x+val v-q*val v<B^m:=by omega);have hfin:=zVQ (P:=B^m) (s:=e+(y1.getD m 0).toNat) htl hR (by rw[qH];rw[uG] at hval1;omega)
    have ht1:=yL (y1.getD m 0);have hset3:(lm (pre++(t++post))).set (pre.length+(((lm v).length:Nat):Int).toNat) [.int .u32 (nx .u32 ((((t.getD m 0).toNat:Nat):Int)+nx .u32 (e:Int)))]=lm (pre++(t.set m (UInt32.ofNat 0)++post)) :=
     zM7 (w:=0) (by grind [zH]) oM (by grind [gP]) w5
    (have hWV:val v<=q*val v:=Nat.le_mul_of_pos_left _ hq1;have hDv:D*val v=q*val v-val v:=by grind);have hF2:t.set m (UInt32.ofNat 0)=F:=by rw[<-hF];refine zM5 (by grind) ?_;have e1:=u7 t (n:=m) oM (UInt32.ofNat 0);rw[yS (by simp;omega)] at e1;rw[e1,hfin.2,hDv];simp only[xW,Nat.zero_mod,Nat.mul_zero,alT5];omega
    cbv;refine zBS (.le (ps':=⟨[(6,.int .u32 (fun _=>(D:Int)))],kx pre F post⟩) ?_ ?_ rfl) rfl (lR) rfl rfl rfl rfl;{cbv;refine⟨zC ?_,trivial⟩;rw[hdig];show nx .u32 (nx .u64 ((q:Int)-1))=((q-1:Nat):Int);simp only[gP,uM];omega};{cbv;refine⟨zI ?_,trivial⟩;rw[<-hF2];exact hset3}
end Go.Proofs.YtaeaffgjdcigoaaGreat
