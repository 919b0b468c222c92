/- A part of the proof: ReD, ReE. -/
import Derived.Test.YtfainocfaddbdaaGreatU20
set_option linter.all false
namespace Go.Proofs.YtfainocfaddbdaaGreat
open Go
set_option maxRecDepth 100000
theorem eV {a k:Nat}(hk:k<=32):ishr .u32 (a:Int) (k:Int)=((a/2^k:Nat):Int):=by
 unfold ishr;have:min (k:Int).toNat IntKind.u32.bits=k:=by simp[IntKind.bits];omega
 rw[this,zFJ _ (by exact Int.le_of_lt (Int.pow_pos (by decide)))]
 push_cast
 rfl
theorem zSL (n:Nat):n<2^gK n:=by
 unfold gK;split;{rename_i h;subst h;decide}
 ·(rename_i h;have hp:0<(zF n).length:=by rcases aY (zF n).length with e|e;exact absurd (xX.1 (jS e)) h;exact e);have h1:=zR (zF n) ((zF n).length-1)
  (have h2:=w5 (zF n) ((zF n).length-1);have h3:=zAS _ _ (zV ((zF n).getD ((zF n).length-1) 0).toNat) (yL _);rw[yN oM,zM] at h1;have h4:2^(32*((zF n).length-1))=B^((zF n).length-1):=by rw[iO,show (2:Nat)^32=B from rfl]);rw[k8,h4]
  generalize ((zF n).getD ((zF n).length-1) 0).toNat=t at *
  have h6:=wW (B^((zF n).length-1)) (show t+1<=2^Lib.bitLen t from h3);rw[yE,c8] at h6;generalize B^((zF n).length-1)=P at *
  generalize P*2^Lib.bitLen t=Q at *
  omega
theorem s207 (l:List UInt32)(hl:l.length<2^40):zG 151 [nat l] (.int .i64 (fun _=>(gK (val l):Int))):=by
 refine sF Tryz.f151 ?_;have hl':=xJ (zS l) hl;have c1:=lU l oM;have hb0:(zF (val l)).length=0->gK (val l)=0:=fun h=>nV.2 (xX.1 (jS h));have hb1:(zF (val l)).length≠0->gK (val l)=32*((zF (val l)).length-1)+Lib.bitLen ((zF (val l)).getD ((zF (val l)).length-1) 0).toNat:=fun h=>by rw[gK,if_neg (fun e=>h (by rw[e,limbs_zero];rfl))]
 generalize gK (val l)=bp at *
 generalize zF (val l)=p at *
 cbv;refine cA c1 ?_;cbv;refine zD (fun h=>?_) (fun h=>?_)
 ·cbv
  (refine rC ?_;cbv)
  exact zE (by rw[hb0 om];rfl)
 ·have hp:p.length≠0:=om;have hbp:=hb1 hp;have ht:=yL (p.getD (p.length-1) 0);have htl:=dY ht;cbv;refine⟨zC om om,zC om om,zC om om,xO (p.length-1) om om ?_⟩;generalize (p.getD (p.length-1) 0).toNat=t at *
  cbv;refine zX (σ:=Nat×Nat) (fun s=>⟨[(3,.int .i64 (fun _=>(s.1:Int))),(4,.int .u32 (fun _=>(s.2:Int)))],[]⟩) (fun s=>s.1+Lib.bitLen s.2=bp/\s.2<B) (fun s=>s.2) (32*(p.length-1),t) ⟨hbp.symm,ht⟩ (.le ?_ trivial rfl) ?_;{cbv;exact⟨zE om,lR,trivial⟩};intro s hs;obtain⟨h1,h2⟩:=hs;generalize s.1=k at *
  generalize s.2=x at *
  cbv;refine zD (fun h3=>?_) (fun h3=>?_)
  ·(have hx:0<x:=om;have hh:=Lib.bitLen_half x oM (by simp only[B] at h2;omega);have hdiv:x/2<x:=by omega);have hd2:=eV (a:=x) (k:=1) oM
   generalize hy:x/2=y at *
   cbv;refine⟨zC om om,v9 oM,(k+1,y),⟨by show k+1+Lib.bitLen y=bp;omega,by show y<B;omega⟩,hdiv,.le ?_ trivial rfl⟩;cbv;refine⟨zE om,zE ?_,trivial⟩;exact hd2
  ·have hx:x=0:=om;subst hx;rw[show Lib.bitLen 0=0 by decide] at h1;cbv
   (refine rC ?_;cbv)
   exact zE om
theorem zUC {x:Nat}(hx:x<4294967296):iand .u32 (x:Int) 1=((x%2:Nat):Int):=by
 unfold iand;have key:(BitVec.ofInt 32 (x:Int) &&& BitVec.ofInt 32 1).toNat=x%2:=by rw[BitVec.toNat_and,BitVec.ofInt_natCast,BitVec.toNat_ofNat,wO (show x<2^32 from hx)];show x &&& 1=x%2;exact Nat.and_one_is_mod x
 show IntKind.u32.wrap ((BitVec.ofInt 32 (x:Int) &&& BitVec.ofInt 32 1).toNat:Int)=_;rw[key];have:=gW ((x%2:Nat):Int);unfold nx at this;rw[this];omega
theorem zUB {k:Nat}(hk:k<32):ishl .u32 1 (k:Int)=((2^k:Nat):Int):=by
 unfold ishl;have e:((1:Int)*2^(min (k:Int).toNat IntKind.u32.bits))=((2^k:Nat):Int):=by
  (have:min (k:Int).toNat IntKind.u32.bits=k:=by simp[IntKind.bits];omega);rw[this]
  push_cast
  omega
 have h2:2^k<4294967296:=gB (m:=k) (n:=32) oM hk;have:=gW ((2^k:Nat):Int);unfold nx at this;rw[e,this];generalize 2^k=z at *
 omega
theorem zEC (l:List UInt32)(i:Nat):(l.getD (i/32) 0).toNat/2^(i%32)%2=val l/2^i%2:=by
 have h1:=r6 (l:=l) (i/32);have h2:val (l.drop (i/32))=val l/B^(i/32):=by
  have h3:=bS l (i/32);have h4:=w5 l (i/32);have hB:=aX (n:=i/32) wI;generalize B^(i/32)=M at *
  rw[h3,zI0 _ _ hB,oS h4];omega
 have h5:2^i=B^(i/32)*2^(i%32):=by show 2^i=(2^32)^(i/32)*2^(i%32);rw[<-iO,<-k8];congr 1;omega
 rw[h1,h2,h5,<-Nat.div_div_eq_div_mul];generalize val l/B^(i/32)=y;have h6:B=2^(i%32)*2^(32-i%32):=by rw[<-k8,show i%32+(32-i%32)=32 by omega];rfl
 have h7:2^(32-i%32)=2*2^(31-i%32):=by rw[show 32-i%32=31-i%32+1 by omega,xS,v5]
 rw[h6,Nat.mod_mul_right_div_self,h7,Nat.mod_mul_right_mod]
theorem zSM {A b i:Nat}(hb:0<b):A/2^i=2*(A/2^(i+1))+A/2^i%2:=by
 have:A/2^(i+1)=A/2^i/2:=by rw[xS,<-Nat.div_div_eq_div_mul]
 rw[this];omega
theorem zD9 {A b i:Nat}(hb:0<b):(b<=2*(A/2^(i+1)%b)+A/2^i%2->A/2^i/b=2*(A/2^(i+1)/b)+1/\A/2^i%b=2*(A/2^(i+1)%b)+A/2^i%2-b) /\ (2*(A/2^(i+1)%b)+A/2^i%2<b->A/2^i/b=2*(A/2^(i+1)/b)/\A/2^i%b=2*(A/2^(i+1)%b)+A/2^i%2):=by
 have h1:=zSM (A:=A) (i:=i) hb;have h2:=Nat.div_add_mod (A/2^(i+1)) b;have h3:=vR (A/2^(i+1)) hb;have h4:A/2^i%2<2:=vR _ oM;generalize A/2^(i+1)%b=r at *
 generalize A/2^(i+1)/b=Q at *
 generalize A/2^i%2=t at *
 rw[h1];generalize A/2^(i+1)=X at *
 have h5:b*(2*Q)=2*(b*Q):=zBX _ _ _;constructor
 ·(intro h;have e:2*X+t=b*(2*Q+1)+(2*r+t-b):=by rw[yE,c8];omega);rw[e,Nat.mul_add_div hb,Nat.mul_add_mod,oS oM,wO oM]
  exact⟨by omega,rfl⟩
 ·(intro h;have e:2*X+t=b*(2*Q)+(2*r+t):=by omega);rw[e,Nat.mul_add_div hb,Nat.mul_add_mod,oS h,wO h]
  exact⟨by omega,rfl⟩
theorem zAK {q:List UInt32}{i m:Nat}(h:val q=m*2^(i+1)):∃ t,(q.getD (i/32) 0).toNat=2^(i%32+1)*t:=by
 have h1:=r6 (l:=q) (i/32);have h3:=bS q (i/32);have h4:=w5 q (i/32);have h5:2^(i+1)=B^(i/32)*2^(i%32+1):=by show 2^(i+1)=(2^32)^(i/32)*2^(i%32+1);rw[<-iO,<-k8];congr 1;omega
 have h2:val (q.drop (i/32))=2^(i%32+1)*m:=by
  have hB:=aX (n:=i/32) wI;have e:val (q.drop (i/32))=val q/B^(i/32):=by
   generalize B^(i/32)=M at *
   rw[h3,zI0 _ _ hB,oS h4];omega
  rw[e,h,h5,v5 m,vI,Nat.mul_div_cancel_left _ hB]
 have h6:B=2^(i%32+1)*2^(31-i%32):=by rw[<-k8,show i%32+1+(31-i%32)=32 by omega];rfl
 rw[h1,h2,h6,Nat.mul_mod_mul_left];exact⟨_,rfl⟩
theorem yAQ:Pg.funcs[119]?=some Tryz.f119:=by rw[vJ];rfl
theorem s159 (a b:List UInt32)(ha:a.length<2^34)(hb:b.length<2^34)(h0:val b≠0):zG 119 [nat a,nat b] (.tup [nat (zF (val a/val b)),nat (zF (val a%val b)),.int .i64 (fun _=>0)]):=by
 refine yW yAQ rfl rfl rfl rfl rfl ?_;have hB:B=4294967296:=rfl;have hbp:0<val b:=cZ h0;have ca:=s206 a oM;have cb:=s206 b oM;have cbits:=s207 a oM;have hbits:=zSL (val a);have hbl:gK (val a)<=32*a.length:=vS zSK (wW _ (zS a));have hrl:∀ n,(zF (val a/2^n%val b)).length<=b.length:=fun n=>z7 (dF (vR _ hbp) (xZ b));have hdiv0:val a/2^gK (val a)=0:=oS hbits;have hb1:val b<B*B->(if val b<B*B then val b else 0:Nat)=val b:=fun h=>if_pos h;have ha1:val a<B*B->(if val a<B*B then val a else 0:Nat)=val a:=fun h=>if_pos h;have cof:=fun (h:val a<B*B)=>s149 (val a/val b) (xJ (aW _ _) h);have cor:=fun (h:val a<B*B)=>s149 (val a%val b) (xJ (Nat.mod_le _ _) h);have hda:decide (val a<B*B)=true->val a<B*B:=of_decide_eq_true;have hdb:decide (val b<B*B)=true->val b<B*B:=of_decide_eq_true;generalize (if val a<B*B then val a else 0:Nat)=x at *
 generalize (if val b<B*B then val b else 0:Nat)=y at *
 generalize decide (val a<B*B)=d1 at *
 generalize decide (val b<B*B)=d2 at *
 generalize hbb:gK (val a)=bits at *
 cbv;refine cA ca ?_;cbv;refine cA cb ?_;cbv;refine xK (fun h=>?_) (fun h=>?_)
 ·subst h;have hyb:=hb1 (hdb rfl);cbv;refine zD (fun h=>absurd (show y=0 from om) (by rw[hyb];exact h0)) (fun h=>?_);cbv;refine xK (fun h1=>?_) (fun h1=>?_)
  ·(subst h1;have hxa:=ha1 (hda rfl);have c1:=cof (hda rfl);have c2:=cor (hda rfl);have hxl:val a<18446744073709551616:=hda rfl;have e1:nx .u64 (iquo (x:Int) (y:Int))=((val a/val b:Nat):Int):=by rw[jK,hxa,hyb];exact xW (xJ (aW _ _) hxl));have e2:irem (x:Int) (y:Int)=((val a%val b:Nat):Int):=by rw[jJ,hxa,hyb]
   cbv;refine z6 (fun _=>?_) (fun h=>absurd h (by decide));cbv;refine zT 8 (by cbv) ?_;cbv;refine⟨uI oM,?_⟩;refine bJ (by exact⟨zE e1,trivial⟩) c1 rfl ?_;cbv;refine⟨uI oM,?_⟩;refine bJ (by exact⟨zE e2,trivial⟩) c2 rfl ?_;cbv
   (refine rC ?_;cbv)
   exact okA
  ·subst h1;cbv;refine⟨yB om om,vF om om,?_⟩;cbv;refine cA cbits ?_;cbv;refine⟨zC om om,?_⟩;refine zX (σ:=Nat×List UInt32) (fun s=>⟨[(0,nat a),(1,nat b),(11,.osl 43 1 (fun _=>0) (fun _=>a.length)),(12,nat (zF (val a/2^s.1%val b))),(13,.int .i64 (fun _=>(s.1:Int)-1))],[(43,.arr 1 (fun _=>lm s.2))]⟩)
    (fun s=>s.1<=bits/\s.2.length=a.length/\val s.2=(val a/2^s.1/val b)*2^s.1) (fun s=>s.1) (bits,List.replicate a.length 0) ⟨zV _,by simp,by rw[hdiv0];simp[fG]⟩ (.trans (.frz 44 rfl rfl (by cbv;repeat' first|exact trivial|exact yG (by simp)|apply zN) (by cbv;repeat' first|exact trivial|apply zN)) (.le ?_ ?_ rfl)) ?_
   {cbv;exact⟨lR,lR,zU rfl (by (try dsimp only [zI] at *);simp only[zH];omega),zY (by rw[hdiv0,Nat.zero_mod,limbs_zero];rfl),lR,trivial⟩};{cbv;exact⟨zB (zBK _ _ (by (try dsimp only [zI] at *);simp only[zH])),trivial⟩};intro s hs;obtain⟨k1,k2,k3⟩:=hs;generalize s.1=n at *
   generalize s.2=q at *
   cbv;refine zD (fun h5=>?_) (fun h5=>?_)
   ·(obtain⟨i,rfl⟩:∃ i,n=i+1:=⟨n-1,by (try dsimp only [zI] at *);omega⟩;have hi1:((i+1:Nat):Int)-1=(i:Int):=by omega);have hq:nx .i64 (iquo (((i+1:Nat):Int)-1) 32)=((i/32:Nat):Int):=by rw[hi1,show iquo (i:Int) 32=((i/32:Nat):Int) from jK (b:=32),sN oM oM]
    (have hr:irem (((i+1:Nat):Int)-1) 32=((i%32:Nat):Int):=by rw[hi1];exact jJ (b:=32));have hil:i/32<a.length:=by omega
    have hbit:=zEC a i;have hbit2:val a/2^i%2<2:=vR _ oM;have hd:=yL (a.getD (i/32) 0);have hrl1:=hrl (i+1);have cs:=s208 (zF (val a/2^(i+1)%val b)) 1 oM oM;rw[zM] at cs;have hl2:(zF (val a/2^(i+1)%val b*2^1)).length<=b.length+1:=by refine z7 ?_;rw[show B^(b.length+1)=B^b.length*B from xS _ _];refine zBW (dF (vR _ hbp) (xZ b)) (by decide)
    (have cadd:=s156 (zF (val a/2^(i+1)%val b*2^1)) [UInt32.ofNat (val a/2^i%2)] oM (by simp);have hv1:val [UInt32.ofNat (val a/2^i%2)]=val a/2^i%2:=by simp only[val,x8,B];omega);rw[zM,hv1] at cadd
    (have hdb:=zD9 (A:=val a) (i:=i) hbp;have e2r:val a/2^(i+1)%val b*2^1+val a/2^i%2=2*(val a/2^(i+1)%val b)+val a/2^i%2:=by omega);rw[e2r] at cadd
    have hl3:(zF (2*(val a/2^(i+1)%val b)+val a/2^i%2)).length<=b.length+1:=by
     refine z7 ?_;have h7:=dF (vR (val a/2^(i+1)) hbp) (xZ b);have h8:B^b.length*4<=B^b.length*B:=wW _ (by decide);rw[show B^(b.length+1)=B^b.length*B from xS _ _];generalize B^b.length=P at *
     omega
    (have ccmp:=s205 (zF (2*(val a/2^(i+1)%val b)+val a/2^i%2)) b oM oM;have csub:=s157 (zF (2*(val a/2^(i+1)%val b)+val a/2^i%2)) b oM oM;rw[zM] at ccmp csub;obtain⟨hd1,hd2⟩:=hdb;have hfree:=zAK (q:=q) (i:=i) (m:=val a/2^(i+1)/val b) k3;have hpow:(2:Nat)^(i+1)=2*2^i:=by rw[xS,v5]);have k3':val q=val a/2^(i+1)/val b*(2*2^i):=by rw[<-hpow];exact k3
    (have hcl:0<=qH (2*(val a/2^(i+1)%val b)+val a/2^i%2) (val b)↔val b<=2*(val a/2^(i+1)%val b)+val a/2^i%2:=by unfold qH;split;{omega};{split <;> omega});have hbitE:([[.int .u32 (iand .u32 (ishr .u32 (((a.getD (i/32) 0).toNat:Nat):Int) (irem (((i+1:Nat):Int)-1) 32)) 1)]]:List (List D))=lm [UInt32.ofNat (val a/2^i%2)]:=by rw[hr,eV oM,zUC (xJ (aW _ _) hd),hbit];simp only[lm,uC,mU,x8];rw[wO (show val a/2^i%2<B by simp only[B];omega)]
    generalize qH (2*(val a/2^(i+1)%val b)+val a/2^i%2) (val b)=C at *
    generalize hR:2*(val a/2^(i+1)%val b)+val a/2^i%2=R at *
    generalize zF (val a/2^(i+1)%val b*2^1)=L2 at *
    cbv;refine wL rfl (by exact⟨lR,zE rfl,trivial⟩) cs rfl ?_;cbv;refine⟨uI oM,xO (i/32) (by (try dsimp only [zI] at *);rw[hq]) hil ?_⟩;cbv;refine⟨uI oM,v9 (by (try dsimp only [zI] at *);rw[hr];omega),?_⟩;refine wL rfl (by exact⟨lR,zY hbitE,trivial⟩) cadd rfl ?_;cbv;refine cA ccmp ?_;cbv;refine zD (fun h6=>?_) (fun h6=>?_)
    ·(obtain⟨e1,e2⟩:=hd1 (hcl.1 h6);obtain⟨t,ht⟩:=hfree;have hqj:=yL (q.getD (i/32) 0);have hs32:i%32<32:=vR _ oM;have h2s:2^(i%32)<2^(i%32+1):=gB oM oM;have h2B:2^(i%32)<4294967296:=gB (n:=32) oM hs32;have hor:(q.getD (i/32) 0).toNat ||| 2^(i%32)=(q.getD (i/32) 0).toNat+2^(i%32):=by rw[ht,Nat.or_comm,pH h2s,mN]);have horl:(q.getD (i/32) 0).toNat+2^(i%32)<B:=by rw[<-hor];exact c5 (n:=32) hqj h2B
     (have hW:ior .u32 (((q.getD (i/32) 0).toNat:Nat):Int) (ishl .u32 1 (irem (((i+1:Nat):Int)-1) 32))=(((q.getD (i/32) 0).toNat+2^(i%32):Nat):Int):=by rw[hr,zUB hs32,zIN hqj h2B,hor]);have hq40:q.length<2^40:=by omega
     (have hjq:i/32<q.length:=by omega);cbv
     refine cA csub ?_;cbv;refine zT 10 (by cbv) ?_;cbv;refine⟨uI oM,zQ (by (try dsimp only [zI] at *);rw[hq];omega) (by (try dsimp only [zI] at *);rw[hq];omega),gH (i/32) (by (try dsimp only [zI] at *);rw[hq];omega) hjq ?_⟩;cbv;refine⟨uI oM,v9 (by (try dsimp only [zI] at *);rw[hr];omega),zQ (by (try dsimp only [zI] at *);rw[hq];omega) (by (try dsimp only [zI] at *);rw[hq];omega),gH (i/32) (by (try dsimp only [zI] at *);rw[hq];omega) hjq ?_⟩;cbv;refine⟨zC om om,(i,q.set (i/32) (UInt32.ofNat ((q.getD (i/32) 0).toNat+2^(i%32)))),⟨by omega,by simpa using k2,?_⟩,by show i<i+1;omega,.le ?_ ?_ rfl⟩
     ·(show val (q.set (i/32) _)=val a/2^i/val b*2^i;have e3:=a6 q hjq (UInt32.ofNat ((q.getD (i/32) 0).toNat+2^(i%32)));have e4:2^i=B^(i/32)*2^(i%32):=by show 2^i=(2^32)^(i/32)*2^(i%32);rw[<-iO,<-k8];congr 1;omega);rw[x8,wO horl,yE,<-e4,k3'] at e3;rw[e1,w7,mS,v5 2 (val a/2^(i+1)/val b),vI];omega
     {cbv;exact⟨lR,lR,lR,zY (by rw[e2]),zE om,trivial⟩}
     ·(cbv;have hset:(lm q).set (0+(nx .i64 (iquo (((i+1:Nat):Int)-1) 32)).toNat) [.int .u32 (ior .u32 (((q.getD (i/32) 0).toNat:Nat):Int) (ishl .u32 1 (irem (((i+1:Nat):Int)-1) 32)))]=lm (q.set (i/32) (UInt32.ofNat ((q.getD (i/32) 0).toNat+2^(i%32)))):=by rw[hq];exact fJ q (by rw[xN,xA]) hW horl);exact⟨zB hset,trivial⟩
    {obtain⟨e1,e2⟩:=hd2 (by have:=fun e=>h6 (hcl.2 e);omega);cbv;refine⟨zC om om,(i,q),⟨by omega,k2,?_⟩,by show i<i+1;omega,.le ?_ ?_ rfl⟩;{show val q=val a/2^i/val b*2^i;rw[k3',e1,v5 2 (val a/2^(i+1)/val b),vI]};{cbv;exact⟨lR,lR,lR,zY (by rw[e2]),zE om,trivial⟩};{cbv;exact⟨zB rfl,trivial⟩}}
   ·(have hn:n=0:=by (try dsimp only [zI] at *);omega);subst hn
    rw[mT,pY,c8] at k3;have cm:=lU q oM;rw[k3] at cm;cbv;refine aR (.frz 43 rfl rfl ?_ ?_) rfl (by refine⟨zY ?_,trivial⟩;exact yN (by show ((lm q).drop 0).length<=a.length;rw[uS,zH];omega)) cm rfl ?_;{cbv;exact⟨yG (by rw[zH];omega),yG (by rw[zH];omega),trivial⟩};{exact trivial};cbv
    (refine rC ?_;cbv)
    exact⟨lR,zY (by rw[mT,pY]),lR,trivial⟩
 ·subst h;cbv;refine xK (fun h1=>?_) (fun h1=>?_)
  ·subst h1;cbv;refine z6 (fun h=>absurd h (by decide)) (fun _=>?_);cbv;refine⟨yB om om,vF om om,?_⟩;cbv;refine cA cbits ?_;cbv;refine⟨zC om om,?_⟩;refine zX (σ:=Nat×List UInt32) (fun s=>⟨[(0,nat a),(1,nat b),(11,.osl 43 1 (fun _=>0) (fun _=>a.length)),(12,nat (zF (val a/2^s.1%val b))),(13,.int .i64 (fun _=>(s.1:Int)-1))],[(43,.arr 1 (fun _=>lm s.2))]⟩)
    (fun s=>s.1<=bits/\s.2.length=a.length/\val s.2=(val a/2^s.1/val b)*2^s.1) (fun s=>s.1) (bits,List.replicate a.length 0) ⟨zV _,by simp,by rw[hdiv0];simp[fG]⟩ (.trans (.frz 44 rfl rfl (by cbv;repeat' first|exact trivial|exact yG (by simp)|apply zN) (by cbv;repeat' first|exact trivial|apply zN)) (.le ?_ ?_ rfl)) ?_
   {cbv;exact⟨lR,lR,zU rfl (by (try dsimp only [zI] at *);simp only[zH];omega),zY (by rw[hdiv0,Nat.zero_mod,limbs_zero];rfl),lR,trivial⟩};{cbv;exact⟨zB (zBK _ _ (by (try dsimp only [zI] at *);simp only[zH])),trivial⟩};intro s hs;obtain⟨k1,k2,k3⟩:=hs;generalize s.1=n at *
   generalize s.2=q at *
   cbv;refine zD (fun h5=>?_) (fun h5=>?_)
   ·(obtain⟨i,rfl⟩:∃ i,n=i+1:=⟨n-1,by (try dsimp only [zI] at *);omega⟩;have hi1:((i+1:Nat):Int)-1=(i:Int):=by omega);have hq:nx .i64 (iquo (((i+1:Nat):Int)-1) 32)=((i/32:Nat):Int):=by rw[hi1,show iquo (i:Int) 32=((i/32:Nat):Int) from jK (b:=32),sN oM oM]
    (have hr:irem (((i+1:Nat):Int)-1) 32=((i%32:Nat):Int):=by rw[hi1];exact jJ (b:=32));have hil:i/32<a.length:=by omega
    have hbit:=zEC a i;have hbit2:val a/2^i%2<2:=vR _ oM;have hd:=yL (a.getD (i/32) 0);have hrl1:=hrl (i+1);have cs:=s208 (zF (val a/2^(i+1)%val b)) 1 oM oM;rw[zM] at cs;have hl2:(zF (val a/2^(i+1)%val b*2^1)).length<=b.length+1:=by refine z7 ?_;rw[show B^(b.length+1)=B^b.length*B from xS _ _];refine zBW (dF (vR _ hbp) (xZ b)) (by decide)
    (have cadd:=s156 (zF (val a/2^(i+1)%val b*2^1)) [UInt32.ofNat (val a/2^i%2)] oM (by simp);have hv1:val [UInt32.ofNat (val a/2^i%2)]=val a/2^i%2:=by simp only[val,x8,B];omega);rw[zM,hv1] at cadd
    (have hdb:=zD9 (A:=val a) (i:=i) hbp;have e2r:val a/2^(i+1)%val b*2^1+val a/2^i%2=2*(val a/2^(i+1)%val b)+val a/2^i%2:=by omega);rw[e2r] at cadd
    have hl3:(zF (2*(val a/2^(i+1)%val b)+val a/2^i%2)).length<=b.length+1:=by
     refine z7 ?_;have h7:=dF (vR (val a/2^(i+1)) hbp) (xZ b);have h8:B^b.length*4<=B^b.length*B:=wW _ (by decide);rw[show B^(b.length+1)=B^b.length*B from xS _ _];generalize B^b.length=P at *
     omega
    (have ccmp:=s205 (zF (2*(val a/2^(i+1)%val b)+val a/2^i%2)) b oM oM;have csub:=s157 (zF (2*(val a/2^(i+1)%val b)+val a/2^i%2)) b oM oM;rw[zM] at ccmp csub;obtain⟨hd1,hd2⟩:=hdb;have hfree:=zAK (q:=q) (i:=i) (m:=val a/2^(i+1)/val b) k3;have hpow:(2:Nat)^(i+1)=2*2^i:=by rw[xS,v5]);have k3':val q=val a/2^(i+1)/val b*(2*2^i):=by rw[<-hpow];exact k3
    (have hcl:0<=qH (2*(val a/2^(i+1)%val b)+val a/2^i%2) (val b)↔val b<=2*(val a/2^(i+1)%val b)+val a/2^i%2:=by unfold qH;split;{omega};{split <;> omega});have hbitE:([[.int .u32 (iand .u32 (ishr .u32 (((a.getD (i/32) 0).toNat:Nat):Int) (irem (((i+1:Nat):Int)-1) 32)) 1)]]:List (List D))=lm [UInt32.ofNat (val a/2^i%2)]:=by rw[hr,eV oM,zUC (xJ (aW _ _) hd),hbit];simp only[lm,uC,mU,x8];rw[wO (show val a/2^i%2<B by simp only[B];omega)]
    generalize qH (2*(val a/2^(i+1)%val b)+val a/2^i%2) (val b)=C at *
    generalize hR:2*(val a/2^(i+1)%val b)+val a/2^i%2=R at *
    generalize zF (val a/2^(i+1)%val b*2^1)=L2 at *
    cbv;refine wL rfl (by exact⟨lR,zE rfl,trivial⟩) cs rfl ?_;cbv;refine⟨uI oM,xO (i/32) (by (try dsimp only [zI] at *);rw[hq]) hil ?_⟩;cbv;refine⟨uI oM,v9 (by (try dsimp only [zI] at *);rw[hr];omega),?_⟩;refine wL rfl (by exact⟨lR,zY hbitE,trivial⟩) cadd rfl ?_;cbv;refine cA ccmp ?_;cbv;refine zD (fun h6=>?_) (fun h6=>?_)
    ·(obtain⟨e1,e2⟩:=hd1 (hcl.1 h6);obtain⟨t,ht⟩:=hfree;have hqj:=yL (q.getD (i/32) 0);have hs32:i%32<32:=vR _ oM;have h2s:2^(i%32)<2^(i%32+1):=gB oM oM;have h2B:2^(i%32)<4294967296:=gB (n:=32) oM hs32;have hor:(q.getD (i/32) 0).toNat ||| 2^(i%32)=(q.getD (i/32) 0).toNat+2^(i%32):=by rw[ht,Nat.or_comm,pH h2s,mN]);have horl:(q.getD (i/32) 0).toNat+2^(i%32)<B:=by rw[<-hor];exact c5 (n:=32) hqj h2B
     (have hW:ior .u32 (((q.getD (i/32) 0).toNat:Nat):Int) (ishl .u32 1 (irem (((i+1:Nat):Int)-1) 32))=(((q.getD (i/32) 0).toNat+2^(i%32):Nat):Int):=by rw[hr,zUB hs32,zIN hqj h2B,hor]);have hq40:q.length<2^40:=by omega
     (have hjq:i/32<q.length:=by omega);cbv
     refine cA csub ?_;cbv;refine zT 10 (by cbv) ?_;cbv;refine⟨uI oM,zQ (by (try dsimp only [zI] at *);rw[hq];omega) (by (try dsimp only [zI] at *);rw[hq];omega),gH (i/32) (by (try dsimp only [zI] at *);rw[hq];omega) hjq ?_⟩;cbv;refine⟨uI oM,v9 (by (try dsimp only [zI] at *);rw[hr];omega),zQ (by (try dsimp only [zI] at *);rw[hq];omega) (by (try dsimp only [zI] at *);rw[hq];omega),gH (i/32) (by (try dsimp only [zI] at *);rw[hq];omega) hjq ?_⟩;cbv;refine⟨zC om om,(i,q.set (i/32) (UInt32.ofNat ((q.getD (i/32) 0).toNat+2^(i%32)))),⟨by omega,by simpa using k2,?_⟩,by show i<i+1;omega,.le ?_ ?_ rfl⟩
     ·(show val (q.set (i/32) _)=val a/2^i/val b*2^i;have e3:=a6 q hjq (UInt32.ofNat ((q.getD (i/32) 0).toNat+2^(i%32)));have e4:2^i=B^(i/32)*2^(i%32):=by show 2^i=(2^32)^(i/32)*2^(i%32);rw[<-iO,<-k8];congr 1;omega);rw[x8,wO horl,yE,<-e4,k3'] at e3;rw[e1,w7,mS,v5 2 (val a/2^(i+1)/val b),vI];omega
     {cbv;exact⟨lR,lR,lR,zY (by rw[e2]),zE om,trivial⟩}
     ·(cbv;have hset:(lm q).set (0+(nx .i64 (iquo (((i+1:Nat):Int)-1) 32)).toNat) [.int .u32 (ior .u32 (((q.getD (i/32) 0).toNat:Nat):Int) (ishl .u32 1 (irem (((i+1:Nat):Int)-1) 32)))]=lm (q.set (i/32) (UInt32.ofNat ((q.getD (i/32) 0).toNat+2^(i%32)))):=by rw[hq];exact fJ q (by rw[xN,xA]) hW horl);exact⟨zB hset,trivial⟩
    {obtain⟨e1,e2⟩:=hd2 (by have:=fun e=>h6 (hcl.2 e);omega);cbv;refine⟨zC om om,(i,q),⟨by omega,k2,?_⟩,by show i<i+1;omega,.le ?_ ?_ rfl⟩;{show val q=val a/2^i/val b*2^i;rw[k3',e1,v5 2 (val a/2^(i+1)/val b),vI]};{cbv;exact⟨lR,lR,lR,zY (by rw[e2]),zE om,trivial⟩};{cbv;exact⟨zB rfl,trivial⟩}}
   ·(have hn:n=0:=by (try dsimp only [zI] at *);omega);subst hn
    rw[mT,pY,c8] at k3;have cm:=lU q oM;rw[k3] at cm;cbv;refine aR (.frz 43 rfl rfl ?_ ?_) rfl (by refine⟨zY ?_,trivial⟩;exact yN (by show ((lm q).drop 0).length<=a.length;rw[uS,zH];omega)) cm rfl ?_;{cbv;exact⟨yG (by rw[zH];omega),yG (by rw[zH];omega),trivial⟩};{exact trivial};cbv
    (refine rC ?_;cbv)
    exact⟨lR,zY (by rw[mT,pY]),lR,trivial⟩
  ·subst h1;cbv;refine⟨yB om om,vF om om,?_⟩;cbv;refine cA cbits ?_;cbv;refine⟨zC om om,?_⟩;refine zX (σ:=Nat×List UInt32) (fun s=>⟨[(0,nat a),(1,nat b),(11,.osl 43 1 (fun _=>0) (fun _=>a.length)),(12,nat (zF (val a/2^s.1%val b))),(13,.int .i64 (fun _=>(s.1:Int)-1))],[(43,.arr 1 (fun _=>lm s.2))]⟩)
    (fun s=>s.1<=bits/\s.2.length=a.length/\val s.2=(val a/2^s.1/val b)*2^s.1) (fun s=>s.1) (bits,List.replicate a.length 0) ⟨zV _,by simp,by rw[hdiv0];simp[fG]⟩ (.trans (.frz 44 rfl rfl (by cbv;repeat' first|exact trivial|exact yG (by simp)|apply zN) (by cbv;repeat' first|exact trivial|apply zN)) (.le ?_ ?_ rfl)) ?_
   {cbv;exact⟨lR,lR,zU rfl (by (try dsimp only [zI] at *);simp only[zH];omega),zY (by rw[hdiv0,Nat.zero_mod,limbs_zero];rfl),lR,trivial⟩};{cbv;exact⟨zB (zBK _ _ (by (try dsimp only [zI] at *);simp only[zH])),trivial⟩};intro s hs;obtain⟨k1,k2,k3⟩:=hs;generalize s.1=n at *
   generalize s.2=q at *
   cbv;refine zD (fun h5=>?_) (fun h5=>?_)
   ·(obtain⟨i,rfl⟩:∃ i,n=i+1:=⟨n-1,by (try dsimp only [zI] at *);omega⟩;have hi1:((i+1:Nat):Int)-1=(i:Int):=by omega);have hq:nx .i64 (iquo (((i+1:Nat):Int)-1) 32)=((i/32:Nat):Int):=by rw[hi1,show iquo (i:Int) 32=((i/32:Nat):Int) from jK (b:=32),sN oM oM]
    (have hr:irem (((i+1:Nat):Int)-1) 32=((i%32:Nat):Int):=by rw[hi1];exact jJ (b:=32));have hil:i/32<a.length:=by omega
    have hbit:=zEC a i;have hbit2:val a/2^i%2<2:=vR _ oM;have hd:=yL (a.getD (i/32) 0);have hrl1:=hrl (i+1);have cs:=s208 (zF (val a/2^(i+1)%val b)) 1 oM oM;rw[zM] at cs;have hl2:(zF (val a/2^(i+1)%val b*2^1)).length<=b.length+1:=by refine z7 ?_;rw[show B^(b.length+1)=B^b.length*B from xS _ _];refine zBW (dF (vR _ hbp) (xZ b)) (by decide)
    (have cadd:=s156 (zF (val a/2^(i+1)%val b*2^1)) [UInt32.ofNat (val a/2^i%2)] oM (by simp);have hv1:val [UInt32.ofNat (val a/2^i%2)]=val a/2^i%2:=by simp only[val,x8,B];omega);rw[zM,hv1] at cadd
    (have hdb:=zD9 (A:=val a) (i:=i) hbp;have e2r:val a/2^(i+1)%val b*2^1+val a/2^i%2=2*(val a/2^(i+1)%val b)+val a/2^i%2:=by omega);rw[e2r] at cadd
    have hl3:(zF (2*(val a/2^(i+1)%val b)+val a/2^i%2)).length<=b.length+1:=by
     refine z7 ?_;have h7:=dF (vR (val a/2^(i+1)) hbp) (xZ b);have h8:B^b.length*4<=B^b.length*B:=wW _ (by decide);rw[show B^(b.length+1)=B^b.length*B from xS _ _];generalize B^b.length=P at *
     omega
    (have ccmp:=s205 (zF (2*(val a/2^(i+1)%val b)+val a/2^i%2)) b oM oM;have csub:=s157 (zF (2*(val a/2^(i+1)%val b)+val a/2^i%2)) b oM oM;rw[zM] at ccmp csub;obtain⟨hd1,hd2⟩:=hdb;have hfree:=zAK (q:=q) (i:=i) (m:=val a/2^(i+1)/val b) k3;have hpow:(2:Nat)^(i+1)=2*2^i:=by rw[xS,v5]);have k3':val q=val a/2^(i+1)/val b*(2*2^i):=by rw[<-hpow];exact k3
    (have hcl:0<=qH (2*(val a/2^(i+1)%val b)+val a/2^i%2) (val b)↔val b<=2*(val a/2^(i+1)%val b)+val a/2^i%2:=by unfold qH;split;{omega};{split <;> omega});have hbitE:([[.int .u32 (iand .u32 (ishr .u32 (((a.getD (i/32) 0).toNat:Nat):Int) (irem (((i+1:Nat):Int)-1) 32)) 1)]]:List (List D))=lm [UInt32.ofNat (val a/2^i%2)]:=by rw[hr,eV oM,zUC (xJ (aW _ _) hd),hbit];simp only[lm,uC,mU,x8];rw[wO (show val a/2^i%2<B by simp only[B];omega)]
    generalize qH (2*(val a/2^(i+1)%val b)+val a/2^i%2) (val b)=C at *
    generalize hR:2*(val a/2^(i+1)%val b)+val a/2^i%2=R at *
    generalize zF (val a/2^(i+1)%val b*2^1)=L2 at *
    cbv;refine wL rfl (by exact⟨lR,zE rfl,trivial⟩) cs rfl ?_;cbv;refine⟨uI oM,xO (i/32) (by (try dsimp only [zI] at *);rw[hq]) hil ?_⟩;cbv;refine⟨uI oM,v9 (by (try dsimp only [zI] at *);rw[hr];omega),?_⟩;refine wL rfl (by exact⟨lR,zY hbitE,trivial⟩) cadd rfl ?_;cbv;refine cA ccmp ?_;cbv;refine zD (fun h6=>?_) (fun h6=>?_)
    ·(obtain⟨e1,e2⟩:=hd1 (hcl.1 h6);obtain⟨t,ht⟩:=hfree;have hqj:=yL (q.getD (i/32) 0);have hs32:i%32<32:=vR _ oM;have h2s:2^(i%32)<2^(i%32+1):=gB oM oM;have h2B:2^(i%32)<4294967296:=gB (n:=32) oM hs32;have hor:(q.getD (i/32) 0).toNat ||| 2^(i%32)=(q.getD (i/32) 0).toNat+2^(i%32):=by rw[ht,Nat.or_comm,pH h2s,mN]);have horl:(q.getD (i/32) 0).toNat+2^(i%32)<B:=by rw[<-hor];exact c5 (n:=32) hqj h2B
     (have hW:ior .u32 (((q.getD (i/32) 0).toNat:Nat):Int) (ishl .u32 1 (irem (((i+1:Nat):Int)-1) 32))=(((q.getD (i/32) 0).toNat+2^(i%32):Nat):Int):=by rw[hr,zUB hs32,zIN hqj h2B,hor]);have hq40:q.length<2^40:=by omega
     (have hjq:i/32<q.length:=by omega);cbv
     refine cA csub ?_;cbv;refine zT 10 (by cbv) ?_;cbv;refine⟨uI oM,zQ (by (try dsimp only [zI] at *);rw[hq];omega) (by (try dsimp only [zI] at *);rw[hq];omega),gH (i/32) (by (try dsimp only [zI] at *);rw[hq];omega) hjq ?_⟩;cbv;refine⟨uI oM,v9 (by (try dsimp only [zI] at *);rw[hr];omega),zQ (by (try dsimp only [zI] at *);rw[hq];omega) (by (try dsimp only [zI] at *);rw[hq];omega),gH (i/32) (by (try dsimp only [zI] at *);rw[hq];omega) hjq ?_⟩;cbv;refine⟨zC om om,(i,q.set (i/32) (UInt32.ofNat ((q.getD (i/32) 0).toNat+2^(i%32)))),⟨by omega,by simpa using k2,?_⟩,by show i<i+1;omega,.le ?_ ?_ rfl⟩
     ·(show val (q.set (i/32) _)=val a/2^i/val b*2^i;have e3:=a6 q hjq (UInt32.ofNat ((q.getD (i/32) 0).toNat+2^(i%32)));have e4:2^i=B^(i/32)*2^(i%32):=by show 2^i=(2^32)^(i/32)*2^(i%32);rw[<-iO,<-k8];congr 1;omega);rw[x8,wO horl,yE,<-e4,k3'] at e3;rw[e1,w7,mS,v5 2 (val a/2^(i+1)/val b),vI];omega
     {cbv;exact⟨lR,lR,lR,zY (by rw[e2]),zE om,trivial⟩}
     ·(cbv;have hset:(lm q).set (0+(nx .i64 (iquo (((i+1:Nat):Int)-1) 32)).toNat) [.int .u32 (ior .u32 (((q.getD (i/32) 0).toNat:Nat):Int) (ishl .u32 1 (irem (((i+1:Nat):Int)-1) 32)))]=lm (q.set (i/32) (UInt32.ofNat ((q.getD (i/32) 0).toNat+2^(i%32)))):=by rw[hq];exact fJ q (by rw[xN,xA]) hW horl);exact⟨zB hset,trivial⟩
    {obtain⟨e1,e2⟩:=hd2 (by have:=fun e=>h6 (hcl.2 e);omega);cbv;refine⟨zC om om,(i,q),⟨by omega,k2,?_⟩,by show i<i+1;omega,.le ?_ ?_ rfl⟩;{show val q=val a/2^i/val b*2^i;rw[k3',e1,v5 2 (val a/2^(i+1)/val b),vI]};{cbv;exact⟨lR,lR,lR,zY (by rw[e2]),zE om,trivial⟩};{cbv;exact⟨zB rfl,trivial⟩}}
   ·(have hn:n=0:=by (try dsimp only [zI] at *);omega);subst hn
    rw[mT,pY,c8] at k3;have cm:=lU q oM;rw[k3] at cm;cbv;refine aR (.frz 43 rfl rfl ?_ ?_) rfl (by refine⟨zY ?_,trivial⟩;exact yN (by show ((lm q).drop 0).length<=a.length;rw[uS,zH];omega)) cm rfl ?_;{cbv;exact⟨yG (by rw[zH];omega),yG (by rw[zH];omega),trivial⟩};{exact trivial};cbv
    (refine rC ?_;cbv)
    exact⟨lR,zY (by rw[mT,pY]),lR,trivial⟩
theorem s158 (a b:List UInt32)(ha:a.length<2^34)(hb:b.length<2^34):zG 118 [nat a,nat b] (nat (zF (Nat.gcd (val a) (val b)))):=by
 refine sF Tryz.f118 ?_;have ha':=xJ (zS a) ha;have hb':=xJ (zS b) hb;generalize hg:Nat.gcd (val a) (val b)=g;cbv;refine cA (lU a oM) ?_;cbv;refine cA (lU b oM) ?_;cbv;refine zX (σ:=Nat×Nat) (fun z=>⟨[(0,nat (zF z.1)),(1,nat (zF z.2))],[]⟩) (fun z=>(zF z.1).length<2^34/\(zF z.2).length<2^34/\Nat.gcd z.1 z.2=g) (fun z=>z.2) (val a,val b) ⟨ha',hb',hg⟩ (.le ?_ trivial rfl) ?_;{cbv;exact okA};intro z hz;obtain⟨h1,h2,h3⟩:=hz;generalize z.1=x at *
 generalize z.2=y at *
 cbv;refine zD (fun h4=>?_) (fun h4=>?_)
 ·(have hy:y≠0:=fun e=>by subst e;(try dsimp only [zI] at *);simp[lm,limbs_zero] at h4);have hm:=vR x (cZ hy)
  have c1:=s159 (zF x) (zF y) h1 h2 (by rw[zM];exact hy);rw[zM,zM] at c1;cbv;refine cA c1 ?_;cbv;refine⟨(y,x%y),⟨h2,xJ (kL (pZ hm)) h2,by rw[s7,<-Nat.gcd_rec,s7];exact h3⟩,hm,.le ?_ trivial rfl⟩;cbv;exact okA
 ·have hy:y=0:=xX.1 (jS (by (try dsimp only [zI] at *);rw[zH] at h4;omega));subst hy;cbv
  (refine rC ?_;cbv)
  exact zY (by rw[<-h3,zIY])
theorem s148 (neg:Bool)(m:List UInt32)(hm:m.length<2^40):zG 116 [.bool (fun _=>neg),nat m] (zv (wA (sgn neg (val m)))):=by
 refine sF Tryz.f116 ?_;rw[zJY];cbv;refine cA (lU m oM) ?_;cbv;refine xK (fun h=>?_) (fun h=>?_)
 ·subst h;cbv
  (refine rC ?_;cbv)
  refine⟨yX ?_,lR,trivial⟩;rw[aZ];simp only[decide_eq_true_eq,zH,wM];rw[<-@xX (val m),<-zIX]
  (try dsimp only [zI] at *)
  omega
 ·subst h;cbv
  (refine rC ?_;cbv)
  exact okA
theorem s88 (x:Int)(h1:-9223372036854775808<=x)(h2:x<9223372036854775808):zG 67 [.int .i64 (fun _=>x)] (zv (wA x)):=by
 refine sF Tryz.f67 ?_;have hBB:B*B=18446744073709551616:=by decide
 have hl:(zF x.natAbs).length<=2:=len2.2 oM;have c1:=s148 true (zF x.natAbs) oM;have c2:=s148 false (zF x.natAbs) oM;have c3:=s149 x.natAbs oM;rw[zM] at c1 c2;have e1:x<0->sgn true x.natAbs=x:=fun h=>by show -(x.natAbs:Int)=x;omega
 have e2:¬x<0->sgn false x.natAbs=x:=fun h=>by show (x.natAbs:Int)=x;omega
 have n1:x<0->nx .u64 (0-nx .u64 x)=((x.natAbs:Nat):Int):=fun h=>by simp only[uJ];omega
 have n2:¬x<0->nx .u64 x=((x.natAbs:Nat):Int):=fun h=>by simp only[uJ];omega
 generalize x.natAbs=n at *
 cbv;refine zD (fun h=>?_) (fun h=>?_)
 ·rw[e1 h] at c1;generalize wA x=W at *
  have n3:=n1 h;cbv;refine wL rfl (by exact⟨zE n3,trivial⟩) c3 rfl ?_;cbv;refine cA c1 ?_;cbv
  (refine rC ?_;cbv)
  exact okA
 ·rw[e2 h] at c2;generalize wA x=W at *
  have n3:=n2 h;cbv;refine wL rfl (by exact⟨zE n3,trivial⟩) c3 rfl ?_;cbv;refine cA c2 ?_;cbv
  (refine rC ?_;cbv)
  exact okA
theorem s90 (x:Z)(hx:x.mag.length<2^40):zG 74 [zv x] (.int .i64 (fun _=>jV x.v)):=by
 refine sF Tryz.f74 ?_;have c1:=s148 x.neg x.mag hx;have e:sgn x.neg (val x.mag)=x.v:=rfl;rw[e] at c1;have hneg:(wA x.v).neg=decide (x.v<0):=rfl;have hmag:(wA x.v).mag.length=0↔x.v=0:=by show (zF x.v.natAbs).length=0↔_;rw[zIX,xX];omega
 have e0:x.v=0->jV x.v=0:=fun h=>by rw[h];rfl
 have e1:x.v<0->jV x.v=-1:=fun h=>by unfold jV;rw[if_pos h]
 have e2:¬x.v<0->x.v≠0->jV x.v=1:=fun h h'=>by unfold jV;rw[if_neg h,if_pos oM]
 generalize jV x.v=s at *
 generalize wA x.v=W at *
 generalize x.v=v at *
 obtain⟨a,m⟩:=x;obtain⟨w1,w2⟩:=W;simp only at hneg hmag;cbv;refine cA c1 ?_;cbv;refine zD (fun h=>?_) (fun h=>?_)
 ·cbv
  (refine rC ?_;cbv)
  exact zE (e0 (hmag.1 om)).symm
 ·have hv:v≠0:=fun e=>h (by have:=hmag.2 e;(try dsimp only [zI] at *);rw[zH];omega);cbv;refine z6 (fun h2=>?_) (fun h2=>?_)
  ·cbv
   (refine rC ?_;cbv)
   exact zE (e1 (of_decide_eq_true (hneg.symm.trans h2))).symm
  ·cbv
   (refine rC ?_;cbv)
   exact zE (e2 (of_decide_eq_false (hneg.symm.trans h2)) hv).symm
theorem s101 (x y:Z)(hx:x.mag.length<2^38)(hy:y.mag.length<2^38):zG 75 [zv x,zv y] (zv (wA (x.v+y.v))):=by
 refine sF Tryz.f75 ?_;obtain⟨n1,m1⟩:=x;obtain⟨n2,m2⟩:=y;have hv:Z.v ⟨n1,m1⟩+Z.v ⟨n2,m2⟩=sgn n1 (val m1)+sgn n2 (val m2):=rfl;have hl:=zOD m1 m2;have hl1:=zCV m1 m2;have hl2:=zCV m2 m1;have hx':m1.length<2^38:=hx;have hy':m2.length<2^38:=hy;rw[hv];have c1:n1=n2->zG 116 [.bool (fun _=>n1),nat (zF (val m1+val m2))] (zv (wA (sgn n1 (val m1)+sgn n2 (val m2)))):=by
  (intro h;have:=s148 n1 (zF (val m1+val m2)) oM;rw[zM] at this;have e:sgn n1 (val m1+val m2)=sgn n1 (val m1)+sgn n2 (val m2):=by rw[<-h];cases n1 <;> simp[sgn];omega);rw[e] at this
  exact this
 have c2:n1≠n2->val m2<=val m1->zG 116 [.bool (fun _=>n1),nat (zF (val m1-val m2))] (zv (wA (sgn n1 (val m1)+sgn n2 (val m2)))):=by
  (intro h hge;have:=s148 n1 (zF (val m1-val m2)) oM;rw[zM] at this;have e:sgn n1 (val m1-val m2)=sgn n1 (val m1)+sgn n2 (val m2):=by cases n1 <;> cases n2 <;> simp[sgn] at h ⊢ <;> omega);rw[e] at this
  exact this
 have c3:n1≠n2->¬val m2<=val m1->zG 116 [.bool (fun _=>n2),nat (zF (val m2-val m1))] (zv (wA (sgn n1 (val m1)+sgn n2 (val m2)))):=by
  (intro h hge;have:=s148 n2 (zF (val m2-val m1)) oM;rw[zM] at this;have e:sgn n2 (val m2-val m1)=sgn n1 (val m1)+sgn n2 (val m2):=by cases n1 <;> cases n2 <;> simp[sgn] at h ⊢ <;> omega);rw[e] at this
  exact this
 have cs1:=s157 m1 m2 oM oM;have cs2:=s157 m2 m1 oM oM;have hE1:val m2<=val m1->(if val m2<=val m1 then (0:Int) else 2)=0:=fun h=>if_pos h;have hE2:¬val m2<=val m1->(if val m2<=val m1 then (0:Int) else 2)=2:=fun h=>if_neg h;generalize (if val m2<=val m1 then (0:Int) else 2)=E at *
 generalize (if val m1<=val m2 then (0:Int) else 2)=E' at *
 generalize sgn n1 (val m1)+sgn n2 (val m2)=T at *
 cbv;refine zD (fun h=>?_) (fun h=>?_)
 ·have h':=c1 h;generalize wA T=W at *
  cbv;refine zT 8 (by cbv) ?_;cbv;refine dA (s156 m1 m2 oM oM) ?_;cbv;refine dA h' ?_;cbv
  (refine rC ?_;cbv)
  exact okA
 ·have h2:=c2 h;have h3:=c3 h;generalize wA T=W at *
  cbv;refine cA cs1 ?_;cbv;refine zD (fun h4=>?_) (fun h4=>?_)
  ·(have hge:val m2<=val m1:=by rcases wE (val m1) (val m2) with e|e;{have:=hE2 oM;omega};{exact e});cbv;refine cA (h2 hge) ?_;cbv
   (refine rC ?_;cbv)
   exact okA
  ·have hlt:¬val m2<=val m1:=fun e=>h4 (hE1 e);cbv;refine cA cs2 ?_;cbv;refine cA (h3 hlt) ?_;cbv
   (refine rC ?_;cbv)
   exact okA
end Go.Proofs.YtfainocfaddbdaaGreat
