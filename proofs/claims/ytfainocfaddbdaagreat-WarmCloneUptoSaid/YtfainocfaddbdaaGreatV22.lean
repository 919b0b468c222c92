/- A part of the proof: ReD, ReE. -/
import Derived.Test.YtfainocfaddbdaaGreatV21
set_option linter.all false
namespace Go.Proofs.YtfainocfaddbdaaGreat
open Go
set_option maxRecDepth 100000
theorem p8 {a k:Nat}(hk:k<=32):ishr .u32 (a:Int) (k:Int)=((a/2^k:Nat):Int):=by
 unfold ishr;have:min (k:Int).toNat IntKind.u32.bits=k:=by simp[IntKind.bits];omega
 rw[this,Int.fdiv_eq_ediv_of_nonneg _ (by exact Int.le_of_lt (Int.pow_pos (by decide)))]
 push_cast
 rfl
theorem zJR (n:Nat):n<2^qV n:=by
 unfold qV;split;{rename_i h;subst h;decide}
 ·(rename_i h;have hp:0<(zF n).length:=by rcases Nat.eq_zero_or_pos (zF n).length with e|e;exact absurd (xI.1 (List.eq_nil_of_length_eq_zero e)) h;exact e);have h1:=zT (zF n) ((zF n).length-1)
  (have h2:=xT (zF n) ((zF n).length-1);have h3:=m5 _ _ (Nat.le_refl ((zF n).getD ((zF n).length-1) 0).toNat) (yF _);rw[List.take_of_length_le (by omega),zN] at h1;have h4:2^(32*((zF n).length-1))=B^((zF n).length-1):=by rw[Nat.pow_mul,show (2:Nat)^32=B from rfl]);rw[Nat.pow_add,h4]
  generalize ((zF n).getD ((zF n).length-1) 0).toNat=t at *
  have h6:=Nat.mul_le_mul_left (B^((zF n).length-1)) (show t+1<=2^Lib.bitLen t from h3);rw[Nat.mul_add,Nat.mul_one] at h6;generalize B^((zF n).length-1)=P at *
  generalize P*2^Lib.bitLen t=Q at *
  omega
theorem s207 (l:List UInt32)(hl:l.length<2^40):zK 151 [nat l] (.int .i64 (fun _=>(qV (val l):Int))):=by
 refine sF Tryz.f151 ?_;have hl':=Nat.lt_of_le_of_lt (zU l) hl;have c1:=rB l (by omega);have hb0:(zF (val l)).length=0->qV (val l)=0:=fun h=>sD.2 (xI.1 (List.eq_nil_of_length_eq_zero h));have hb1:(zF (val l)).length≠0->qV (val l)=32*((zF (val l)).length-1)+Lib.bitLen ((zF (val l)).getD ((zF (val l)).length-1) 0).toNat:=fun h=>by rw[qV,if_neg (fun e=>h (by rw[e,z9];rfl))]
 generalize qV (val l)=bp at *
 generalize zF (val l)=p at *
 cbv;refine cA c1 ?_;cbv;refine zE (fun h=>?_) (fun h=>?_)
 ·cbv
  (refine rC ?_;cbv)
  exact zC (by rw[hb0 om];rfl)
 ·have hp:p.length≠0:=om;have hbp:=hb1 hp;have ht:=yF (p.getD (p.length-1) 0);have htl:=jR ht;cbv;refine⟨zD om om,zD om om,zD om om,y5 (p.length-1) om om ?_⟩;generalize (p.getD (p.length-1) 0).toNat=t at *
  cbv;refine z8 (σ:=Nat×Nat) (fun s=>⟨[(3,.int .i64 (fun _=>(s.1:Int))),(4,.int .u32 (fun _=>(s.2:Int)))],[]⟩) (fun s=>s.1+Lib.bitLen s.2=bp/\s.2<B) (fun s=>s.2) (32*(p.length-1),t) ⟨hbp.symm,ht⟩ (.le ?_ trivial rfl) ?_;{cbv;exact⟨zC om,lR,trivial⟩};intro s hs;obtain⟨h1,h2⟩:=hs;generalize s.1=k at *
  generalize s.2=x at *
  cbv;refine zE (fun h3=>?_) (fun h3=>?_)
  ·(have hx:0<x:=om;have hh:=Lib.bitLen_half x (by omega) (by simp only[B] at h2;omega);have hdiv:x/2<x:=by omega);have hd2:=p8 (a:=x) (k:=1) (by omega)
   generalize hy:x/2=y at *
   cbv;refine⟨zD om om,wT (by omega),(k+1,y),⟨by show k+1+Lib.bitLen y=bp;omega,by show y<B;omega⟩,hdiv,.le ?_ trivial rfl⟩;cbv;refine⟨zC om,zC ?_,trivial⟩;exact hd2
  ·have hx:x=0:=om;subst hx;rw[show Lib.bitLen 0=0 by decide] at h1;cbv
   (refine rC ?_;cbv)
   exact zC om
theorem zK9 {x:Nat}(hx:x<4294967296):iand .u32 (x:Int) 1=((x%2:Nat):Int):=by
 unfold iand;have key:(BitVec.ofInt 32 (x:Int) &&& BitVec.ofInt 32 1).toNat=x%2:=by rw[BitVec.toNat_and,BitVec.ofInt_natCast,BitVec.toNat_ofNat,Nat.mod_eq_of_lt (show x<2^32 from hx)];show x &&& 1=x%2;exact Nat.and_one_is_mod x
 show IntKind.u32.wrap ((BitVec.ofInt 32 (x:Int) &&& BitVec.ofInt 32 1).toNat:Int)=_;rw[key];have:=kI ((x%2:Nat):Int);unfold nx at this;rw[this];omega
theorem zK8 {k:Nat}(hk:k<32):ishl .u32 1 (k:Int)=((2^k:Nat):Int):=by
 unfold ishl;have e:((1:Int)*2^(min (k:Int).toNat IntKind.u32.bits))=((2^k:Nat):Int):=by
  (have:min (k:Int).toNat IntKind.u32.bits=k:=by simp[IntKind.bits];omega);rw[this]
  push_cast
  omega
 have h2:2^k<4294967296:=Nat.pow_lt_pow_right (m:=k) (n:=32) (by omega) hk;have:=kI ((2^k:Nat):Int);unfold nx at this;rw[e,this];generalize 2^k=z at *
 omega
theorem oE (l:List UInt32)(i:Nat):(l.getD (i/32) 0).toNat/2^(i%32)%2=val l/2^i%2:=by
 have h1:=cL (l:=l) (i/32);have h2:val (l.drop (i/32))=val l/B^(i/32):=by
  have h3:=gW l (i/32);have h4:=xT l (i/32);have hB:=Nat.pow_pos (n:=i/32) xN;generalize B^(i/32)=M at *
  rw[h3,Nat.add_mul_div_left _ _ hB,Nat.div_eq_of_lt h4];omega
 have h5:2^i=B^(i/32)*2^(i%32):=by show 2^i=(2^32)^(i/32)*2^(i%32);rw[<-Nat.pow_mul,<-Nat.pow_add];congr 1;omega
 rw[h1,h2,h5,<-Nat.div_div_eq_div_mul];generalize val l/B^(i/32)=y;have h6:B=2^(i%32)*2^(32-i%32):=by rw[<-Nat.pow_add,show i%32+(32-i%32)=32 by omega];rfl
 have h7:2^(32-i%32)=2*2^(31-i%32):=by rw[show 32-i%32=31-i%32+1 by omega,Nat.pow_succ,Nat.mul_comm]
 rw[h6,Nat.mod_mul_right_div_self,h7,Nat.mod_mul_right_mod]
theorem zJS {A b i:Nat}(hb:0<b):A/2^i=2*(A/2^(i+1))+A/2^i%2:=by
 have:A/2^(i+1)=A/2^i/2:=by rw[Nat.pow_succ,<-Nat.div_div_eq_div_mul]
 rw[this];omega
theorem eT {A b i:Nat}(hb:0<b):(b<=2*(A/2^(i+1)%b)+A/2^i%2->A/2^i/b=2*(A/2^(i+1)/b)+1/\A/2^i%b=2*(A/2^(i+1)%b)+A/2^i%2-b) /\ (2*(A/2^(i+1)%b)+A/2^i%2<b->A/2^i/b=2*(A/2^(i+1)/b)/\A/2^i%b=2*(A/2^(i+1)%b)+A/2^i%2):=by
 have h1:=zJS (A:=A) (i:=i) hb;have h2:=Nat.div_add_mod (A/2^(i+1)) b;have h3:=Nat.mod_lt (A/2^(i+1)) hb;have h4:A/2^i%2<2:=Nat.mod_lt _ (by omega);generalize A/2^(i+1)%b=r at *
 generalize A/2^(i+1)/b=Q at *
 generalize A/2^i%2=t at *
 rw[h1];generalize A/2^(i+1)=X at *
 have h5:b*(2*Q)=2*(b*Q):=Nat.mul_left_comm _ _ _;constructor
 ·(intro h;have e:2*X+t=b*(2*Q+1)+(2*r+t-b):=by rw[Nat.mul_add,Nat.mul_one];omega);rw[e,Nat.mul_add_div hb,Nat.mul_add_mod,Nat.div_eq_of_lt (by omega),Nat.mod_eq_of_lt (by omega)]
  exact⟨by omega,rfl⟩
 ·(intro h;have e:2*X+t=b*(2*Q)+(2*r+t):=by omega);rw[e,Nat.mul_add_div hb,Nat.mul_add_mod,Nat.div_eq_of_lt h,Nat.mod_eq_of_lt h]
  exact⟨by omega,rfl⟩
theorem mU {q:List UInt32}{i m:Nat}(h:val q=m*2^(i+1)):∃ t,(q.getD (i/32) 0).toNat=2^(i%32+1)*t:=by
 have h1:=cL (l:=q) (i/32);have h3:=gW q (i/32);have h4:=xT q (i/32);have h5:2^(i+1)=B^(i/32)*2^(i%32+1):=by show 2^(i+1)=(2^32)^(i/32)*2^(i%32+1);rw[<-Nat.pow_mul,<-Nat.pow_add];congr 1;omega
 have h2:val (q.drop (i/32))=2^(i%32+1)*m:=by
  have hB:=Nat.pow_pos (n:=i/32) xN;have e:val (q.drop (i/32))=val q/B^(i/32):=by
   generalize B^(i/32)=M at *
   rw[h3,Nat.add_mul_div_left _ _ hB,Nat.div_eq_of_lt h4];omega
  rw[e,h,h5,Nat.mul_comm m,Nat.mul_assoc,Nat.mul_div_cancel_left _ hB]
 have h6:B=2^(i%32+1)*2^(31-i%32):=by rw[<-Nat.pow_add,show i%32+1+(31-i%32)=32 by omega];rfl
 rw[h1,h2,h6,Nat.mul_mod_mul_left];exact⟨_,rfl⟩
theorem zPY:Pg.funcs[119]?=some Tryz.f119:=by rw[xV];rfl
theorem s159 (a b:List UInt32)(ha:a.length<2^34)(hb:b.length<2^34)(h0:val b≠0):zK 119 [nat a,nat b] (.tup [nat (zF (val a/val b)),nat (zF (val a%val b)),.int .i64 (fun _=>0)]):=by
 refine yK zPY rfl rfl rfl rfl rfl ?_;have hB:B=4294967296:=rfl;have hbp:0<val b:=Nat.pos_of_ne_zero h0;have ca:=s206 a (by omega);have cb:=s206 b (by omega);have cbits:=s207 a (by omega);have hbits:=zJR (val a);have hbl:qV (val a)<=32*a.length:=Nat.le_trans zJQ (Nat.mul_le_mul_left _ (zU a));have hrl:∀ n,(zF (val a/2^n%val b)).length<=b.length:=fun n=>z6 (Nat.lt_trans (Nat.mod_lt _ hbp) (xF b));have hdiv0:val a/2^qV (val a)=0:=Nat.div_eq_of_lt hbits;have hb1:val b<B*B->(if val b<B*B then val b else 0:Nat)=val b:=fun h=>if_pos h;have ha1:val a<B*B->(if val a<B*B then val a else 0:Nat)=val a:=fun h=>if_pos h;have cof:=fun (h:val a<B*B)=>s149 (val a/val b) (Nat.lt_of_le_of_lt (Nat.div_le_self _ _) h);have cor:=fun (h:val a<B*B)=>s149 (val a%val b) (Nat.lt_of_le_of_lt (Nat.mod_le _ _) h);have hda:decide (val a<B*B)=true->val a<B*B:=of_decide_eq_true;have hdb:decide (val b<B*B)=true->val b<B*B:=of_decide_eq_true;generalize (if val a<B*B then val a else 0:Nat)=x at *
 generalize (if val b<B*B then val b else 0:Nat)=y at *
 generalize decide (val a<B*B)=d1 at *
 generalize decide (val b<B*B)=d2 at *
 generalize hbb:qV (val a)=bits at *
 cbv;refine cA ca ?_;cbv;refine cA cb ?_;cbv;refine xO (fun h=>?_) (fun h=>?_)
 ·subst h;have hyb:=hb1 (hdb rfl);cbv;refine zE (fun h=>absurd (show y=0 from om) (by rw[hyb];exact h0)) (fun h=>?_);cbv;refine xO (fun h1=>?_) (fun h1=>?_)
  ·(subst h1;have hxa:=ha1 (hda rfl);have c1:=cof (hda rfl);have c2:=cor (hda rfl);have hxl:val a<18446744073709551616:=hda rfl;have e1:nx .u64 (iquo (x:Int) (y:Int))=((val a/val b:Nat):Int):=by rw[j6,hxa,hyb];exact xG (Nat.lt_of_le_of_lt (Nat.div_le_self _ _) hxl));have e2:irem (x:Int) (y:Int)=((val a%val b:Nat):Int):=by rw[jB,hxa,hyb]
   cbv;refine z4 (fun _=>?_) (fun h=>absurd h (by decide));cbv;refine zY 8 (by cbv) ?_;cbv;refine⟨uC (by omega),?_⟩;refine bB (by exact⟨zC e1,trivial⟩) c1 rfl ?_;cbv;refine⟨uC (by omega),?_⟩;refine bB (by exact⟨zC e2,trivial⟩) c2 rfl ?_;cbv
   (refine rC ?_;cbv)
   exact okA
  ·subst h1;cbv;refine⟨yE om om,wQ om om,?_⟩;cbv;refine cA cbits ?_;cbv;refine⟨zD om om,?_⟩;refine z8 (σ:=Nat×List UInt32) (fun s=>⟨[(0,nat a),(1,nat b),(11,.osl 43 1 (fun _=>0) (fun _=>a.length)),(12,nat (zF (val a/2^s.1%val b))),(13,.int .i64 (fun _=>(s.1:Int)-1))],[(43,.arr 1 (fun _=>lm s.2))]⟩)
    (fun s=>s.1<=bits/\s.2.length=a.length/\val s.2=(val a/2^s.1/val b)*2^s.1) (fun s=>s.1) (bits,List.replicate a.length 0) ⟨Nat.le_refl _,by simp,by rw[hdiv0];simp[kQ]⟩ (.trans (.frz 44 rfl rfl (by cbv;repeat' first|exact trivial|exact yI (by simp)|apply And.intro) (by cbv;repeat' first|exact trivial|apply And.intro)) (.le ?_ ?_ rfl)) ?_
   {cbv;exact⟨lR,lR,z5 rfl (by (try dsimp only [zL] at *);simp only[zG];omega),zX (by rw[hdiv0,Nat.zero_mod,z9];rfl),lR,trivial⟩};{cbv;exact⟨zA (mO _ _ (by (try dsimp only [zL] at *);simp only[zG])),trivial⟩};intro s hs;obtain⟨k1,k2,k3⟩:=hs;generalize s.1=n at *
   generalize s.2=q at *
   cbv;refine zE (fun h5=>?_) (fun h5=>?_)
   ·(obtain⟨i,rfl⟩:∃ i,n=i+1:=⟨n-1,by (try dsimp only [zL] at *);omega⟩;have hi1:((i+1:Nat):Int)-1=(i:Int):=by omega);have hq:nx .i64 (iquo (((i+1:Nat):Int)-1) 32)=((i/32:Nat):Int):=by rw[hi1,show iquo (i:Int) 32=((i/32:Nat):Int) from j6 (b:=32),iS (by omega) (by omega)]
    (have hr:irem (((i+1:Nat):Int)-1) 32=((i%32:Nat):Int):=by rw[hi1];exact jB (b:=32));have hil:i/32<a.length:=by omega
    have hbit:=oE a i;have hbit2:val a/2^i%2<2:=Nat.mod_lt _ (by omega);have hd:=yF (a.getD (i/32) 0);have hrl1:=hrl (i+1);have cs:=s208 (zF (val a/2^(i+1)%val b)) 1 (by omega) (by omega);rw[zN] at cs;have hl2:(zF (val a/2^(i+1)%val b*2^1)).length<=b.length+1:=by refine z6 ?_;rw[show B^(b.length+1)=B^b.length*B from Nat.pow_succ _ _];refine Nat.mul_lt_mul'' (Nat.lt_trans (Nat.mod_lt _ hbp) (xF b)) (by decide)
    (have cadd:=s156 (zF (val a/2^(i+1)%val b*2^1)) [UInt32.ofNat (val a/2^i%2)] (by omega) (by simp);have hv1:val [UInt32.ofNat (val a/2^i%2)]=val a/2^i%2:=by simp only[val,xC,B];omega);rw[zN,hv1] at cadd
    (have hdb:=eT (A:=val a) (i:=i) hbp;have e2r:val a/2^(i+1)%val b*2^1+val a/2^i%2=2*(val a/2^(i+1)%val b)+val a/2^i%2:=by omega);rw[e2r] at cadd
    have hl3:(zF (2*(val a/2^(i+1)%val b)+val a/2^i%2)).length<=b.length+1:=by
     refine z6 ?_;have h7:=Nat.lt_trans (Nat.mod_lt (val a/2^(i+1)) hbp) (xF b);have h8:B^b.length*4<=B^b.length*B:=Nat.mul_le_mul_left _ (by decide);rw[show B^(b.length+1)=B^b.length*B from Nat.pow_succ _ _];generalize B^b.length=P at *
     omega
    (have ccmp:=s205 (zF (2*(val a/2^(i+1)%val b)+val a/2^i%2)) b (by omega) (by omega);have csub:=s157 (zF (2*(val a/2^(i+1)%val b)+val a/2^i%2)) b (by omega) (by omega);rw[zN] at ccmp csub;obtain⟨hd1,hd2⟩:=hdb;have hfree:=mU (q:=q) (i:=i) (m:=val a/2^(i+1)/val b) k3;have hpow:(2:Nat)^(i+1)=2*2^i:=by rw[Nat.pow_succ,Nat.mul_comm]);have k3':val q=val a/2^(i+1)/val b*(2*2^i):=by rw[<-hpow];exact k3
    (have hcl:0<=vM (2*(val a/2^(i+1)%val b)+val a/2^i%2) (val b)↔val b<=2*(val a/2^(i+1)%val b)+val a/2^i%2:=by unfold vM;split;{omega};{split <;> omega});have hbitE:([[.int .u32 (iand .u32 (ishr .u32 (((a.getD (i/32) 0).toNat:Nat):Int) (irem (((i+1:Nat):Int)-1) 32)) 1)]]:List (List D))=lm [UInt32.ofNat (val a/2^i%2)]:=by rw[hr,p8 (by omega),zK9 (Nat.lt_of_le_of_lt (Nat.div_le_self _ _) hd),hbit];simp only[lm,List.map_cons,List.map_nil,xC];rw[Nat.mod_eq_of_lt (show val a/2^i%2<B by simp only[B];omega)]
    generalize vM (2*(val a/2^(i+1)%val b)+val a/2^i%2) (val b)=C at *
    generalize hR:2*(val a/2^(i+1)%val b)+val a/2^i%2=R at *
    generalize zF (val a/2^(i+1)%val b*2^1)=L2 at *
    cbv;refine x6 rfl (by exact⟨lR,zC rfl,trivial⟩) cs rfl ?_;cbv;refine⟨uC (by omega),y5 (i/32) (by (try dsimp only [zL] at *);rw[hq]) hil ?_⟩;cbv;refine⟨uC (by omega),wT (by (try dsimp only [zL] at *);rw[hr];omega),?_⟩;refine x6 rfl (by exact⟨lR,zX hbitE,trivial⟩) cadd rfl ?_;cbv;refine cA ccmp ?_;cbv;refine zE (fun h6=>?_) (fun h6=>?_)
    ·(obtain⟨e1,e2⟩:=hd1 (hcl.1 h6);obtain⟨t,ht⟩:=hfree;have hqj:=yF (q.getD (i/32) 0);have hs32:i%32<32:=Nat.mod_lt _ (by omega);have h2s:2^(i%32)<2^(i%32+1):=Nat.pow_lt_pow_right (by omega) (by omega);have h2B:2^(i%32)<4294967296:=Nat.pow_lt_pow_right (n:=32) (by omega) hs32;have hor:(q.getD (i/32) 0).toNat ||| 2^(i%32)=(q.getD (i/32) 0).toNat+2^(i%32):=by rw[ht,Nat.or_comm,cU h2s,Nat.add_comm]);have horl:(q.getD (i/32) 0).toNat+2^(i%32)<B:=by rw[<-hor];exact Nat.or_lt_two_pow (n:=32) hqj h2B
     (have hW:ior .u32 (((q.getD (i/32) 0).toNat:Nat):Int) (ishl .u32 1 (irem (((i+1:Nat):Int)-1) 32))=(((q.getD (i/32) 0).toNat+2^(i%32):Nat):Int):=by rw[hr,zK8 hs32,zCL hqj h2B,hor]);have hq40:q.length<2^40:=by omega
     (have hjq:i/32<q.length:=by omega);cbv
     refine cA csub ?_;cbv;refine zY 10 (by cbv) ?_;cbv;refine⟨uC (by omega),zR (by (try dsimp only [zL] at *);rw[hq];omega) (by (try dsimp only [zL] at *);rw[hq];omega),qT (i/32) (by (try dsimp only [zL] at *);rw[hq];omega) hjq ?_⟩;cbv;refine⟨uC (by omega),wT (by (try dsimp only [zL] at *);rw[hr];omega),zR (by (try dsimp only [zL] at *);rw[hq];omega) (by (try dsimp only [zL] at *);rw[hq];omega),qT (i/32) (by (try dsimp only [zL] at *);rw[hq];omega) hjq ?_⟩;cbv;refine⟨zD om om,(i,q.set (i/32) (UInt32.ofNat ((q.getD (i/32) 0).toNat+2^(i%32)))),⟨by omega,by simpa using k2,?_⟩,by show i<i+1;omega,.le ?_ ?_ rfl⟩
     ·(show val (q.set (i/32) _)=val a/2^i/val b*2^i;have e3:=dC q hjq (UInt32.ofNat ((q.getD (i/32) 0).toNat+2^(i%32)));have e4:2^i=B^(i/32)*2^(i%32):=by show 2^i=(2^32)^(i/32)*2^(i%32);rw[<-Nat.pow_mul,<-Nat.pow_add];congr 1;omega);rw[xC,Nat.mod_eq_of_lt horl,Nat.mul_add,<-e4,k3'] at e3;rw[e1,Nat.add_mul,Nat.one_mul,Nat.mul_comm 2 (val a/2^(i+1)/val b),Nat.mul_assoc];omega
     {cbv;exact⟨lR,lR,lR,zX (by rw[e2]),zC om,trivial⟩}
     ·(cbv;have hset:(lm q).set (0+(nx .i64 (iquo (((i+1:Nat):Int)-1) 32)).toNat) [.int .u32 (ior .u32 (((q.getD (i/32) 0).toNat:Nat):Int) (ishl .u32 1 (irem (((i+1:Nat):Int)-1) 32)))]=lm (q.set (i/32) (UInt32.ofNat ((q.getD (i/32) 0).toNat+2^(i%32)))):=by rw[hq];exact kT q (by rw[Int.toNat_natCast,Nat.zero_add]) hW horl);exact⟨zA hset,trivial⟩
    {obtain⟨e1,e2⟩:=hd2 (by have:=fun e=>h6 (hcl.2 e);omega);cbv;refine⟨zD om om,(i,q),⟨by omega,k2,?_⟩,by show i<i+1;omega,.le ?_ ?_ rfl⟩;{show val q=val a/2^i/val b*2^i;rw[k3',e1,Nat.mul_comm 2 (val a/2^(i+1)/val b),Nat.mul_assoc]};{cbv;exact⟨lR,lR,lR,zX (by rw[e2]),zC om,trivial⟩};{cbv;exact⟨zA rfl,trivial⟩}}
   ·(have hn:n=0:=by (try dsimp only [zL] at *);omega);subst hn
    rw[Nat.pow_zero,Nat.div_one,Nat.mul_one] at k3;have cm:=rB q (by omega);rw[k3] at cm;cbv;refine f7 (.frz 43 rfl rfl ?_ ?_) rfl (by refine⟨zX ?_,trivial⟩;exact List.take_of_length_le (by show ((lm q).drop 0).length<=a.length;rw[List.drop_zero,zG];omega)) cm rfl ?_;{cbv;exact⟨yI (by rw[zG];omega),yI (by rw[zG];omega),trivial⟩};{exact trivial};cbv
    (refine rC ?_;cbv)
    exact⟨lR,zX (by rw[Nat.pow_zero,Nat.div_one]),lR,trivial⟩
 ·subst h;cbv;refine xO (fun h1=>?_) (fun h1=>?_)
  ·subst h1;cbv;refine z4 (fun h=>absurd h (by decide)) (fun _=>?_);cbv;refine⟨yE om om,wQ om om,?_⟩;cbv;refine cA cbits ?_;cbv;refine⟨zD om om,?_⟩;refine z8 (σ:=Nat×List UInt32) (fun s=>⟨[(0,nat a),(1,nat b),(11,.osl 43 1 (fun _=>0) (fun _=>a.length)),(12,nat (zF (val a/2^s.1%val b))),(13,.int .i64 (fun _=>(s.1:Int)-1))],[(43,.arr 1 (fun _=>lm s.2))]⟩)
    (fun s=>s.1<=bits/\s.2.length=a.length/\val s.2=(val a/2^s.1/val b)*2^s.1) (fun s=>s.1) (bits,List.replicate a.length 0) ⟨Nat.le_refl _,by simp,by rw[hdiv0];simp[kQ]⟩ (.trans (.frz 44 rfl rfl (by cbv;repeat' first|exact trivial|exact yI (by simp)|apply And.intro) (by cbv;repeat' first|exact trivial|apply And.intro)) (.le ?_ ?_ rfl)) ?_
   {cbv;exact⟨lR,lR,z5 rfl (by (try dsimp only [zL] at *);simp only[zG];omega),zX (by rw[hdiv0,Nat.zero_mod,z9];rfl),lR,trivial⟩};{cbv;exact⟨zA (mO _ _ (by (try dsimp only [zL] at *);simp only[zG])),trivial⟩};intro s hs;obtain⟨k1,k2,k3⟩:=hs;generalize s.1=n at *
   generalize s.2=q at *
   cbv;refine zE (fun h5=>?_) (fun h5=>?_)
   ·(obtain⟨i,rfl⟩:∃ i,n=i+1:=⟨n-1,by (try dsimp only [zL] at *);omega⟩;have hi1:((i+1:Nat):Int)-1=(i:Int):=by omega);have hq:nx .i64 (iquo (((i+1:Nat):Int)-1) 32)=((i/32:Nat):Int):=by rw[hi1,show iquo (i:Int) 32=((i/32:Nat):Int) from j6 (b:=32),iS (by omega) (by omega)]
    (have hr:irem (((i+1:Nat):Int)-1) 32=((i%32:Nat):Int):=by rw[hi1];exact jB (b:=32));have hil:i/32<a.length:=by omega
    have hbit:=oE a i;have hbit2:val a/2^i%2<2:=Nat.mod_lt _ (by omega);have hd:=yF (a.getD (i/32) 0);have hrl1:=hrl (i+1);have cs:=s208 (zF (val a/2^(i+1)%val b)) 1 (by omega) (by omega);rw[zN] at cs;have hl2:(zF (val a/2^(i+1)%val b*2^1)).length<=b.length+1:=by refine z6 ?_;rw[show B^(b.length+1)=B^b.length*B from Nat.pow_succ _ _];refine Nat.mul_lt_mul'' (Nat.lt_trans (Nat.mod_lt _ hbp) (xF b)) (by decide)
    (have cadd:=s156 (zF (val a/2^(i+1)%val b*2^1)) [UInt32.ofNat (val a/2^i%2)] (by omega) (by simp);have hv1:val [UInt32.ofNat (val a/2^i%2)]=val a/2^i%2:=by simp only[val,xC,B];omega);rw[zN,hv1] at cadd
    (have hdb:=eT (A:=val a) (i:=i) hbp;have e2r:val a/2^(i+1)%val b*2^1+val a/2^i%2=2*(val a/2^(i+1)%val b)+val a/2^i%2:=by omega);rw[e2r] at cadd
    have hl3:(zF (2*(val a/2^(i+1)%val b)+val a/2^i%2)).length<=b.length+1:=by
     refine z6 ?_;have h7:=Nat.lt_trans (Nat.mod_lt (val a/2^(i+1)) hbp) (xF b);have h8:B^b.length*4<=B^b.length*B:=Nat.mul_le_mul_left _ (by decide);rw[show B^(b.length+1)=B^b.length*B from Nat.pow_succ _ _];generalize B^b.length=P at *
     omega
    (have ccmp:=s205 (zF (2*(val a/2^(i+1)%val b)+val a/2^i%2)) b (by omega) (by omega);have csub:=s157 (zF (2*(val a/2^(i+1)%val b)+val a/2^i%2)) b (by omega) (by omega);rw[zN] at ccmp csub;obtain⟨hd1,hd2⟩:=hdb;have hfree:=mU (q:=q) (i:=i) (m:=val a/2^(i+1)/val b) k3;have hpow:(2:Nat)^(i+1)=2*2^i:=by rw[Nat.pow_succ,Nat.mul_comm]);have k3':val q=val a/2^(i+1)/val b*(2*2^i):=by rw[<-hpow];exact k3
    (have hcl:0<=vM (2*(val a/2^(i+1)%val b)+val a/2^i%2) (val b)↔val b<=2*(val a/2^(i+1)%val b)+val a/2^i%2:=by unfold vM;split;{omega};{split <;> omega});have hbitE:([[.int .u32 (iand .u32 (ishr .u32 (((a.getD (i/32) 0).toNat:Nat):Int) (irem (((i+1:Nat):Int)-1) 32)) 1)]]:List (List D))=lm [UInt32.ofNat (val a/2^i%2)]:=by rw[hr,p8 (by omega),zK9 (Nat.lt_of_le_of_lt (Nat.div_le_self _ _) hd),hbit];simp only[lm,List.map_cons,List.map_nil,xC];rw[Nat.mod_eq_of_lt (show val a/2^i%2<B by simp only[B];omega)]
    generalize vM (2*(val a/2^(i+1)%val b)+val a/2^i%2) (val b)=C at *
    generalize hR:2*(val a/2^(i+1)%val b)+val a/2^i%2=R at *
    generalize zF (val a/2^(i+1)%val b*2^1)=L2 at *
    cbv;refine x6 rfl (by exact⟨lR,zC rfl,trivial⟩) cs rfl ?_;cbv;refine⟨uC (by omega),y5 (i/32) (by (try dsimp only [zL] at *);rw[hq]) hil ?_⟩;cbv;refine⟨uC (by omega),wT (by (try dsimp only [zL] at *);rw[hr];omega),?_⟩;refine x6 rfl (by exact⟨lR,zX hbitE,trivial⟩) cadd rfl ?_;cbv;refine cA ccmp ?_;cbv;refine zE (fun h6=>?_) (fun h6=>?_)
    ·(obtain⟨e1,e2⟩:=hd1 (hcl.1 h6);obtain⟨t,ht⟩:=hfree;have hqj:=yF (q.getD (i/32) 0);have hs32:i%32<32:=Nat.mod_lt _ (by omega);have h2s:2^(i%32)<2^(i%32+1):=Nat.pow_lt_pow_right (by omega) (by omega);have h2B:2^(i%32)<4294967296:=Nat.pow_lt_pow_right (n:=32) (by omega) hs32;have hor:(q.getD (i/32) 0).toNat ||| 2^(i%32)=(q.getD (i/32) 0).toNat+2^(i%32):=by rw[ht,Nat.or_comm,cU h2s,Nat.add_comm]);have horl:(q.getD (i/32) 0).toNat+2^(i%32)<B:=by rw[<-hor];exact Nat.or_lt_two_pow (n:=32) hqj h2B
     (have hW:ior .u32 (((q.getD (i/32) 0).toNat:Nat):Int) (ishl .u32 1 (irem (((i+1:Nat):Int)-1) 32))=(((q.getD (i/32) 0).toNat+2^(i%32):Nat):Int):=by rw[hr,zK8 hs32,zCL hqj h2B,hor]);have hq40:q.length<2^40:=by omega
     (have hjq:i/32<q.length:=by omega);cbv
     refine cA csub ?_;cbv;refine zY 10 (by cbv) ?_;cbv;refine⟨uC (by omega),zR (by (try dsimp only [zL] at *);rw[hq];omega) (by (try dsimp only [zL] at *);rw[hq];omega),qT (i/32) (by (try dsimp only [zL] at *);rw[hq];omega) hjq ?_⟩;cbv;refine⟨uC (by omega),wT (by (try dsimp only [zL] at *);rw[hr];omega),zR (by (try dsimp only [zL] at *);rw[hq];omega) (by (try dsimp only [zL] at *);rw[hq];omega),qT (i/32) (by (try dsimp only [zL] at *);rw[hq];omega) hjq ?_⟩;cbv;refine⟨zD om om,(i,q.set (i/32) (UInt32.ofNat ((q.getD (i/32) 0).toNat+2^(i%32)))),⟨by omega,by simpa using k2,?_⟩,by show i<i+1;omega,.le ?_ ?_ rfl⟩
     ·(show val (q.set (i/32) _)=val a/2^i/val b*2^i;have e3:=dC q hjq (UInt32.ofNat ((q.getD (i/32) 0).toNat+2^(i%32)));have e4:2^i=B^(i/32)*2^(i%32):=by show 2^i=(2^32)^(i/32)*2^(i%32);rw[<-Nat.pow_mul,<-Nat.pow_add];congr 1;omega);rw[xC,Nat.mod_eq_of_lt horl,Nat.mul_add,<-e4,k3'] at e3;rw[e1,Nat.add_mul,Nat.one_mul,Nat.mul_comm 2 (val a/2^(i+1)/val b),Nat.mul_assoc];omega
     {cbv;exact⟨lR,lR,lR,zX (by rw[e2]),zC om,trivial⟩}
     ·(cbv;have hset:(lm q).set (0+(nx .i64 (iquo (((i+1:Nat):Int)-1) 32)).toNat) [.int .u32 (ior .u32 (((q.getD (i/32) 0).toNat:Nat):Int) (ishl .u32 1 (irem (((i+1:Nat):Int)-1) 32)))]=lm (q.set (i/32) (UInt32.ofNat ((q.getD (i/32) 0).toNat+2^(i%32)))):=by rw[hq];exact kT q (by rw[Int.toNat_natCast,Nat.zero_add]) hW horl);exact⟨zA hset,trivial⟩
    {obtain⟨e1,e2⟩:=hd2 (by have:=fun e=>h6 (hcl.2 e);omega);cbv;refine⟨zD om om,(i,q),⟨by omega,k2,?_⟩,by show i<i+1;omega,.le ?_ ?_ rfl⟩;{show val q=val a/2^i/val b*2^i;rw[k3',e1,Nat.mul_comm 2 (val a/2^(i+1)/val b),Nat.mul_assoc]};{cbv;exact⟨lR,lR,lR,zX (by rw[e2]),zC om,trivial⟩};{cbv;exact⟨zA rfl,trivial⟩}}
   ·(have hn:n=0:=by (try dsimp only [zL] at *);omega);subst hn
    rw[Nat.pow_zero,Nat.div_one,Nat.mul_one] at k3;have cm:=rB q (by omega);rw[k3] at cm;cbv;refine f7 (.frz 43 rfl rfl ?_ ?_) rfl (by refine⟨zX ?_,trivial⟩;exact List.take_of_length_le (by show ((lm q).drop 0).length<=a.length;rw[List.drop_zero,zG];omega)) cm rfl ?_;{cbv;exact⟨yI (by rw[zG];omega),yI (by rw[zG];omega),trivial⟩};{exact trivial};cbv
    (refine rC ?_;cbv)
    exact⟨lR,zX (by rw[Nat.pow_zero,Nat.div_one]),lR,trivial⟩
  ·subst h1;cbv;refine⟨yE om om,wQ om om,?_⟩;cbv;refine cA cbits ?_;cbv;refine⟨zD om om,?_⟩;refine z8 (σ:=Nat×List UInt32) (fun s=>⟨[(0,nat a),(1,nat b),(11,.osl 43 1 (fun _=>0) (fun _=>a.length)),(12,nat (zF (val a/2^s.1%val b))),(13,.int .i64 (fun _=>(s.1:Int)-1))],[(43,.arr 1 (fun _=>lm s.2))]⟩)
    (fun s=>s.1<=bits/\s.2.length=a.length/\val s.2=(val a/2^s.1/val b)*2^s.1) (fun s=>s.1) (bits,List.replicate a.length 0) ⟨Nat.le_refl _,by simp,by rw[hdiv0];simp[kQ]⟩ (.trans (.frz 44 rfl rfl (by cbv;repeat' first|exact trivial|exact yI (by simp)|apply And.intro) (by cbv;repeat' first|exact trivial|apply And.intro)) (.le ?_ ?_ rfl)) ?_
   {cbv;exact⟨lR,lR,z5 rfl (by (try dsimp only [zL] at *);simp only[zG];omega),zX (by rw[hdiv0,Nat.zero_mod,z9];rfl),lR,trivial⟩};{cbv;exact⟨zA (mO _ _ (by (try dsimp only [zL] at *);simp only[zG])),trivial⟩};intro s hs;obtain⟨k1,k2,k3⟩:=hs;generalize s.1=n at *
   generalize s.2=q at *
   cbv;refine zE (fun h5=>?_) (fun h5=>?_)
   ·(obtain⟨i,rfl⟩:∃ i,n=i+1:=⟨n-1,by (try dsimp only [zL] at *);omega⟩;have hi1:((i+1:Nat):Int)-1=(i:Int):=by omega);have hq:nx .i64 (iquo (((i+1:Nat):Int)-1) 32)=((i/32:Nat):Int):=by rw[hi1,show iquo (i:Int) 32=((i/32:Nat):Int) from j6 (b:=32),iS (by omega) (by omega)]
    (have hr:irem (((i+1:Nat):Int)-1) 32=((i%32:Nat):Int):=by rw[hi1];exact jB (b:=32));have hil:i/32<a.length:=by omega
    have hbit:=oE a i;have hbit2:val a/2^i%2<2:=Nat.mod_lt _ (by omega);have hd:=yF (a.getD (i/32) 0);have hrl1:=hrl (i+1);have cs:=s208 (zF (val a/2^(i+1)%val b)) 1 (by omega) (by omega);rw[zN] at cs;have hl2:(zF (val a/2^(i+1)%val b*2^1)).length<=b.length+1:=by refine z6 ?_;rw[show B^(b.length+1)=B^b.length*B from Nat.pow_succ _ _];refine Nat.mul_lt_mul'' (Nat.lt_trans (Nat.mod_lt _ hbp) (xF b)) (by decide)
    (have cadd:=s156 (zF (val a/2^(i+1)%val b*2^1)) [UInt32.ofNat (val a/2^i%2)] (by omega) (by simp);have hv1:val [UInt32.ofNat (val a/2^i%2)]=val a/2^i%2:=by simp only[val,xC,B];omega);rw[zN,hv1] at cadd
    (have hdb:=eT (A:=val a) (i:=i) hbp;have e2r:val a/2^(i+1)%val b*2^1+val a/2^i%2=2*(val a/2^(i+1)%val b)+val a/2^i%2:=by omega);rw[e2r] at cadd
    have hl3:(zF (2*(val a/2^(i+1)%val b)+val a/2^i%2)).length<=b.length+1:=by
     refine z6 ?_;have h7:=Nat.lt_trans (Nat.mod_lt (val a/2^(i+1)) hbp) (xF b);have h8:B^b.length*4<=B^b.length*B:=Nat.mul_le_mul_left _ (by decide);rw[show B^(b.length+1)=B^b.length*B from Nat.pow_succ _ _];generalize B^b.length=P at *
     omega
    (have ccmp:=s205 (zF (2*(val a/2^(i+1)%val b)+val a/2^i%2)) b (by omega) (by omega);have csub:=s157 (zF (2*(val a/2^(i+1)%val b)+val a/2^i%2)) b (by omega) (by omega);rw[zN] at ccmp csub;obtain⟨hd1,hd2⟩:=hdb;have hfree:=mU (q:=q) (i:=i) (m:=val a/2^(i+1)/val b) k3;have hpow:(2:Nat)^(i+1)=2*2^i:=by rw[Nat.pow_succ,Nat.mul_comm]);have k3':val q=val a/2^(i+1)/val b*(2*2^i):=by rw[<-hpow];exact k3
    (have hcl:0<=vM (2*(val a/2^(i+1)%val b)+val a/2^i%2) (val b)↔val b<=2*(val a/2^(i+1)%val b)+val a/2^i%2:=by unfold vM;split;{omega};{split <;> omega});have hbitE:([[.int .u32 (iand .u32 (ishr .u32 (((a.getD (i/32) 0).toNat:Nat):Int) (irem (((i+1:Nat):Int)-1) 32)) 1)]]:List (List D))=lm [UInt32.ofNat (val a/2^i%2)]:=by rw[hr,p8 (by omega),zK9 (Nat.lt_of_le_of_lt (Nat.div_le_self _ _) hd),hbit];simp only[lm,List.map_cons,List.map_nil,xC];rw[Nat.mod_eq_of_lt (show val a/2^i%2<B by simp only[B];omega)]
    generalize vM (2*(val a/2^(i+1)%val b)+val a/2^i%2) (val b)=C at *
    generalize hR:2*(val a/2^(i+1)%val b)+val a/2^i%2=R at *
    generalize zF (val a/2^(i+1)%val b*2^1)=L2 at *
    cbv;refine x6 rfl (by exact⟨lR,zC rfl,trivial⟩) cs rfl ?_;cbv;refine⟨uC (by omega),y5 (i/32) (by (try dsimp only [zL] at *);rw[hq]) hil ?_⟩;cbv;refine⟨uC (by omega),wT (by (try dsimp only [zL] at *);rw[hr];omega),?_⟩;refine x6 rfl (by exact⟨lR,zX hbitE,trivial⟩) cadd rfl ?_;cbv;refine cA ccmp ?_;cbv;refine zE (fun h6=>?_) (fun h6=>?_)
    ·(obtain⟨e1,e2⟩:=hd1 (hcl.1 h6);obtain⟨t,ht⟩:=hfree;have hqj:=yF (q.getD (i/32) 0);have hs32:i%32<32:=Nat.mod_lt _ (by omega);have h2s:2^(i%32)<2^(i%32+1):=Nat.pow_lt_pow_right (by omega) (by omega);have h2B:2^(i%32)<4294967296:=Nat.pow_lt_pow_right (n:=32) (by omega) hs32;have hor:(q.getD (i/32) 0).toNat ||| 2^(i%32)=(q.getD (i/32) 0).toNat+2^(i%32):=by rw[ht,Nat.or_comm,cU h2s,Nat.add_comm]);have horl:(q.getD (i/32) 0).toNat+2^(i%32)<B:=by rw[<-hor];exact Nat.or_lt_two_pow (n:=32) hqj h2B
     (have hW:ior .u32 (((q.getD (i/32) 0).toNat:Nat):Int) (ishl .u32 1 (irem (((i+1:Nat):Int)-1) 32))=(((q.getD (i/32) 0).toNat+2^(i%32):Nat):Int):=by rw[hr,zK8 hs32,zCL hqj h2B,hor]);have hq40:q.length<2^40:=by omega
     (have hjq:i/32<q.length:=by omega);cbv
     refine cA csub ?_;cbv;refine zY 10 (by cbv) ?_;cbv;refine⟨uC (by omega),zR (by (try dsimp only [zL] at *);rw[hq];omega) (by (try dsimp only [zL] at *);rw[hq];omega),qT (i/32) (by (try dsimp only [zL] at *);rw[hq];omega) hjq ?_⟩;cbv;refine⟨uC (by omega),wT (by (try dsimp only [zL] at *);rw[hr];omega),zR (by (try dsimp only [zL] at *);rw[hq];omega) (by (try dsimp only [zL] at *);rw[hq];omega),qT (i/32) (by (try dsimp only [zL] at *);rw[hq];omega) hjq ?_⟩;cbv;refine⟨zD om om,(i,q.set (i/32) (UInt32.ofNat ((q.getD (i/32) 0).toNat+2^(i%32)))),⟨by omega,by simpa using k2,?_⟩,by show i<i+1;omega,.le ?_ ?_ rfl⟩
     ·(show val (q.set (i/32) _)=val a/2^i/val b*2^i;have e3:=dC q hjq (UInt32.ofNat ((q.getD (i/32) 0).toNat+2^(i%32)));have e4:2^i=B^(i/32)*2^(i%32):=by show 2^i=(2^32)^(i/32)*2^(i%32);rw[<-Nat.pow_mul,<-Nat.pow_add];congr 1;omega);rw[xC,Nat.mod_eq_of_lt horl,Nat.mul_add,<-e4,k3'] at e3;rw[e1,Nat.add_mul,Nat.one_mul,Nat.mul_comm 2 (val a/2^(i+1)/val b),Nat.mul_assoc];omega
     {cbv;exact⟨lR,lR,lR,zX (by rw[e2]),zC om,trivial⟩}
     ·(cbv;have hset:(lm q).set (0+(nx .i64 (iquo (((i+1:Nat):Int)-1) 32)).toNat) [.int .u32 (ior .u32 (((q.getD (i/32) 0).toNat:Nat):Int) (ishl .u32 1 (irem (((i+1:Nat):Int)-1) 32)))]=lm (q.set (i/32) (UInt32.ofNat ((q.getD (i/32) 0).toNat+2^(i%32)))):=by rw[hq];exact kT q (by rw[Int.toNat_natCast,Nat.zero_add]) hW horl);exact⟨zA hset,trivial⟩
    {obtain⟨e1,e2⟩:=hd2 (by have:=fun e=>h6 (hcl.2 e);omega);cbv;refine⟨zD om om,(i,q),⟨by omega,k2,?_⟩,by show i<i+1;omega,.le ?_ ?_ rfl⟩;{show val q=val a/2^i/val b*2^i;rw[k3',e1,Nat.mul_comm 2 (val a/2^(i+1)/val b),Nat.mul_assoc]};{cbv;exact⟨lR,lR,lR,zX (by rw[e2]),zC om,trivial⟩};{cbv;exact⟨zA rfl,trivial⟩}}
   ·(have hn:n=0:=by (try dsimp only [zL] at *);omega);subst hn
    rw[Nat.pow_zero,Nat.div_one,Nat.mul_one] at k3;have cm:=rB q (by omega);rw[k3] at cm;cbv;refine f7 (.frz 43 rfl rfl ?_ ?_) rfl (by refine⟨zX ?_,trivial⟩;exact List.take_of_length_le (by show ((lm q).drop 0).length<=a.length;rw[List.drop_zero,zG];omega)) cm rfl ?_;{cbv;exact⟨yI (by rw[zG];omega),yI (by rw[zG];omega),trivial⟩};{exact trivial};cbv
    (refine rC ?_;cbv)
    exact⟨lR,zX (by rw[Nat.pow_zero,Nat.div_one]),lR,trivial⟩
theorem s158 (a b:List UInt32)(ha:a.length<2^34)(hb:b.length<2^34):zK 118 [nat a,nat b] (nat (zF (Nat.gcd (val a) (val b)))):=by
 refine sF Tryz.f118 ?_;have ha':=Nat.lt_of_le_of_lt (zU a) ha;have hb':=Nat.lt_of_le_of_lt (zU b) hb;generalize hg:Nat.gcd (val a) (val b)=g;cbv;refine cA (rB a (by omega)) ?_;cbv;refine cA (rB b (by omega)) ?_;cbv;refine z8 (σ:=Nat×Nat) (fun z=>⟨[(0,nat (zF z.1)),(1,nat (zF z.2))],[]⟩) (fun z=>(zF z.1).length<2^34/\(zF z.2).length<2^34/\Nat.gcd z.1 z.2=g) (fun z=>z.2) (val a,val b) ⟨ha',hb',hg⟩ (.le ?_ trivial rfl) ?_;{cbv;exact okA};intro z hz;obtain⟨h1,h2,h3⟩:=hz;generalize z.1=x at *
 generalize z.2=y at *
 cbv;refine zE (fun h4=>?_) (fun h4=>?_)
 ·(have hy:y≠0:=fun e=>by subst e;(try dsimp only [zL] at *);simp[lm,z9] at h4);have hm:=Nat.mod_lt x (Nat.pos_of_ne_zero hy)
  have c1:=s159 (zF x) (zF y) h1 h2 (by rw[zN];exact hy);rw[zN,zN] at c1;cbv;refine cA c1 ?_;cbv;refine⟨(y,x%y),⟨h2,Nat.lt_of_le_of_lt (v7 (Nat.le_of_lt hm)) h2,by rw[Nat.gcd_comm,<-Nat.gcd_rec,Nat.gcd_comm];exact h3⟩,hm,.le ?_ trivial rfl⟩;cbv;exact okA
 ·have hy:y=0:=xI.1 (List.eq_nil_of_length_eq_zero (by (try dsimp only [zL] at *);rw[zG] at h4;omega));subst hy;cbv
  (refine rC ?_;cbv)
  exact zX (by rw[<-h3,Nat.gcd_zero_right])
theorem s148 (neg:Bool)(m:List UInt32)(hm:m.length<2^40):zK 116 [.bool (fun _=>neg),nat m] (zv (xH (sgn neg (val m)))):=by
 refine sF Tryz.f116 ?_;rw[zDF];cbv;refine cA (rB m (by omega)) ?_;cbv;refine xO (fun h=>?_) (fun h=>?_)
 ·subst h;cbv
  (refine rC ?_;cbv)
  refine⟨zH ?_,lR,trivial⟩;rw[Bool.eq_iff_iff];simp only[decide_eq_true_eq,zG,Bool.true_and];rw[<-@xI (val m),<-List.length_eq_zero_iff]
  (try dsimp only [zL] at *)
  omega
 ·subst h;cbv
  (refine rC ?_;cbv)
  exact okA
theorem s88 (x:Int)(h1:-9223372036854775808<=x)(h2:x<9223372036854775808):zK 67 [.int .i64 (fun _=>x)] (zv (xH x)):=by
 refine sF Tryz.f67 ?_;have hBB:B*B=18446744073709551616:=by decide
 have hl:(zF x.natAbs).length<=2:=len2.2 (by omega);have c1:=s148 true (zF x.natAbs) (by omega);have c2:=s148 false (zF x.natAbs) (by omega);have c3:=s149 x.natAbs (by omega);rw[zN] at c1 c2;have e1:x<0->sgn true x.natAbs=x:=fun h=>by show -(x.natAbs:Int)=x;omega
 have e2:¬x<0->sgn false x.natAbs=x:=fun h=>by show (x.natAbs:Int)=x;omega
 have n1:x<0->nx .u64 (0-nx .u64 x)=((x.natAbs:Nat):Int):=fun h=>by simp only[wV];omega
 have n2:¬x<0->nx .u64 x=((x.natAbs:Nat):Int):=fun h=>by simp only[wV];omega
 generalize x.natAbs=n at *
 cbv;refine zE (fun h=>?_) (fun h=>?_)
 ·rw[e1 h] at c1;generalize xH x=W at *
  have n3:=n1 h;cbv;refine x6 rfl (by exact⟨zC n3,trivial⟩) c3 rfl ?_;cbv;refine cA c1 ?_;cbv
  (refine rC ?_;cbv)
  exact okA
 ·rw[e2 h] at c2;generalize xH x=W at *
  have n3:=n2 h;cbv;refine x6 rfl (by exact⟨zC n3,trivial⟩) c3 rfl ?_;cbv;refine cA c2 ?_;cbv
  (refine rC ?_;cbv)
  exact okA
theorem s90 (x:Z)(hx:x.mag.length<2^40):zK 74 [zv x] (.int .i64 (fun _=>u6 x.v)):=by
 refine sF Tryz.f74 ?_;have c1:=s148 x.neg x.mag hx;have e:sgn x.neg (val x.mag)=x.v:=rfl;rw[e] at c1;have hneg:(xH x.v).neg=decide (x.v<0):=rfl;have hmag:(xH x.v).mag.length=0↔x.v=0:=by show (zF x.v.natAbs).length=0↔_;rw[List.length_eq_zero_iff,xI];omega
 have e0:x.v=0->u6 x.v=0:=fun h=>by rw[h];rfl
 have e1:x.v<0->u6 x.v=-1:=fun h=>by unfold u6;rw[if_pos h]
 have e2:¬x.v<0->x.v≠0->u6 x.v=1:=fun h h'=>by unfold u6;rw[if_neg h,if_pos (by omega)]
 generalize u6 x.v=s at *
 generalize xH x.v=W at *
 generalize x.v=v at *
 obtain⟨a,m⟩:=x;obtain⟨w1,w2⟩:=W;simp only at hneg hmag;cbv;refine cA c1 ?_;cbv;refine zE (fun h=>?_) (fun h=>?_)
 ·cbv
  (refine rC ?_;cbv)
  exact zC (e0 (hmag.1 om)).symm
 ·have hv:v≠0:=fun e=>h (by have:=hmag.2 e;(try dsimp only [zL] at *);rw[zG];omega);cbv;refine z4 (fun h2=>?_) (fun h2=>?_)
  ·cbv
   (refine rC ?_;cbv)
   exact zC (e1 (of_decide_eq_true (hneg.symm.trans h2))).symm
  ·cbv
   (refine rC ?_;cbv)
   exact zC (e2 (of_decide_eq_false (hneg.symm.trans h2)) hv).symm
theorem s101 (x y:Z)(hx:x.mag.length<2^38)(hy:y.mag.length<2^38):zK 75 [zv x,zv y] (zv (xH (x.v+y.v))):=by
 refine sF Tryz.f75 ?_;obtain⟨n1,m1⟩:=x;obtain⟨n2,m2⟩:=y;have hv:Z.v ⟨n1,m1⟩+Z.v ⟨n2,m2⟩=sgn n1 (val m1)+sgn n2 (val m2):=rfl;have hl:=zGJ m1 m2;have hl1:=n7 m1 m2;have hl2:=n7 m2 m1;have hx':m1.length<2^38:=hx;have hy':m2.length<2^38:=hy;rw[hv];have c1:n1=n2->zK 116 [.bool (fun _=>n1),nat (zF (val m1+val m2))] (zv (xH (sgn n1 (val m1)+sgn n2 (val m2)))):=by
  (intro h;have:=s148 n1 (zF (val m1+val m2)) (by omega);rw[zN] at this;have e:sgn n1 (val m1+val m2)=sgn n1 (val m1)+sgn n2 (val m2):=by rw[<-h];cases n1 <;> simp[sgn];omega);rw[e] at this
  exact this
 have c2:n1≠n2->val m2<=val m1->zK 116 [.bool (fun _=>n1),nat (zF (val m1-val m2))] (zv (xH (sgn n1 (val m1)+sgn n2 (val m2)))):=by
  (intro h hge;have:=s148 n1 (zF (val m1-val m2)) (by omega);rw[zN] at this;have e:sgn n1 (val m1-val m2)=sgn n1 (val m1)+sgn n2 (val m2):=by cases n1 <;> cases n2 <;> simp[sgn] at h ⊢ <;> omega);rw[e] at this
  exact this
 have c3:n1≠n2->¬val m2<=val m1->zK 116 [.bool (fun _=>n2),nat (zF (val m2-val m1))] (zv (xH (sgn n1 (val m1)+sgn n2 (val m2)))):=by
  (intro h hge;have:=s148 n2 (zF (val m2-val m1)) (by omega);rw[zN] at this;have e:sgn n2 (val m2-val m1)=sgn n1 (val m1)+sgn n2 (val m2):=by cases n1 <;> cases n2 <;> simp[sgn] at h ⊢ <;> omega);rw[e] at this
  exact this
 have cs1:=s157 m1 m2 (by omega) (by omega);have cs2:=s157 m2 m1 (by omega) (by omega);have hE1:val m2<=val m1->(if val m2<=val m1 then (0:Int) else 2)=0:=fun h=>if_pos h;have hE2:¬val m2<=val m1->(if val m2<=val m1 then (0:Int) else 2)=2:=fun h=>if_neg h;generalize (if val m2<=val m1 then (0:Int) else 2)=E at *
 generalize (if val m1<=val m2 then (0:Int) else 2)=E' at *
 generalize sgn n1 (val m1)+sgn n2 (val m2)=T at *
 cbv;refine zE (fun h=>?_) (fun h=>?_)
 ·have h':=c1 h;generalize xH T=W at *
  cbv;refine zY 8 (by cbv) ?_;cbv;refine dA (s156 m1 m2 (by omega) (by omega)) ?_;cbv;refine dA h' ?_;cbv
  (refine rC ?_;cbv)
  exact okA
 ·have h2:=c2 h;have h3:=c3 h;generalize xH T=W at *
  cbv;refine cA cs1 ?_;cbv;refine zE (fun h4=>?_) (fun h4=>?_)
  ·(have hge:val m2<=val m1:=by rcases Nat.lt_or_ge (val m1) (val m2) with e|e;{have:=hE2 (by omega);omega};{exact e});cbv;refine cA (h2 hge) ?_;cbv
   (refine rC ?_;cbv)
   exact okA
  ·have hlt:¬val m2<=val m1:=fun e=>h4 (hE1 e);cbv;refine cA cs2 ?_;cbv;refine cA (h3 hlt) ?_;cbv
   (refine rC ?_;cbv)
   exact okA
end Go.Proofs.YtfainocfaddbdaaGreat
