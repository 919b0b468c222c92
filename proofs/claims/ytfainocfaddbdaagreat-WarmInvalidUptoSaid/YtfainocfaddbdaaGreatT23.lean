/- A part of the proof: ReD. -/
import Derived.Test.YtfainocfaddbdaaGreatT22
set_option linter.all false
namespace Go.Proofs.YtfainocfaddbdaaGreat
open Go
set_option maxRecDepth 100000
theorem pL {a k:Nat}(hk:k<=32):ishr .u32 (a:Int) (k:Int)=((a/2^k:Nat):Int):=by
 unfold ishr;have:min (k:Int).toNat IntKind.u32.bits=k:=by simp[IntKind.bits];omega
 rw[this,Int.fdiv_eq_ediv_of_nonneg _ (by exact Int.le_of_lt (Int.pow_pos (by decide)))]
 push_cast
 rfl
theorem zI8 (n:Nat):n<2^qJ n:=by
 unfold qJ;split;{rename_i h;subst h;decide}
 ·(rename_i h;have hp:0<(zD n).length:=by rcases Nat.eq_zero_or_pos (zD n).length with e|e;exact absurd (xI.1 (List.eq_nil_of_length_eq_zero e)) h;exact e);have h1:=zR (zD n) ((zD n).length-1)
  (have h2:=xS (zD n) ((zD n).length-1);have h3:=mJ _ _ (Nat.le_refl ((zD n).getD ((zD n).length-1) 0).toNat) (yD _);rw[List.take_of_length_le (by omega),zK] at h1;have h4:2^(32*((zD n).length-1))=B^((zD n).length-1):=by rw[Nat.pow_mul,show (2:Nat)^32=B from rfl]);rw[Nat.pow_add,h4]
  generalize ((zD n).getD ((zD n).length-1) 0).toNat=t at *
  have h6:=Nat.mul_le_mul_left (B^((zD n).length-1)) (show t+1<=2^Lib.bitLen t from h3);rw[Nat.mul_add,Nat.mul_one] at h6;generalize B^((zD n).length-1)=P at *
  generalize P*2^Lib.bitLen t=Q at *
  omega
theorem s207 (l:List UInt32)(hl:l.length<2^40):zM 151 [nat l] (.int .i64 (fun _=>(qJ (val l):Int))):=by
 refine sF Tryz.f151 ?_;have hl':=Nat.lt_of_le_of_lt (zT l) hl;have c1:=sR l (by omega);have hb0:(zD (val l)).length=0->qJ (val l)=0:=fun h=>aT.2 (xI.1 (List.eq_nil_of_length_eq_zero h));have hb1:(zD (val l)).length≠0->qJ (val l)=32*((zD (val l)).length-1)+Lib.bitLen ((zD (val l)).getD ((zD (val l)).length-1) 0).toNat:=fun h=>by rw[qJ,if_neg (fun e=>h (by rw[e,z6];rfl))]
 generalize qJ (val l)=bp at *
 generalize zD (val l)=p at *
 cbv;refine cA c1 ?_;cbv;refine zF (fun h=>?_) (fun h=>?_)
 ·cbv
  (refine rC ?_;cbv)
  exact zC (by rw[hb0 om];rfl)
 ·have hp:p.length≠0:=om;have hbp:=hb1 hp;have ht:=yD (p.getD (p.length-1) 0);have htl:=jH ht;cbv;refine⟨zE om om,zE om om,zE om om,y5 (p.length-1) om om ?_⟩;generalize (p.getD (p.length-1) 0).toNat=t at *
  cbv;refine yB (σ:=Nat×Nat) (fun s=>⟨[(3,.int .i64 (fun _=>(s.1:Int))),(4,.int .u32 (fun _=>(s.2:Int)))],[]⟩) (fun s=>s.1+Lib.bitLen s.2=bp/\s.2<B) (fun s=>s.2) (32*(p.length-1),t) ⟨hbp.symm,ht⟩ (.le ?_ trivial rfl) ?_;{cbv;exact⟨zC om,lR,trivial⟩};intro s hs;obtain⟨h1,h2⟩:=hs;generalize s.1=k at *
  generalize s.2=x at *
  cbv;refine zF (fun h3=>?_) (fun h3=>?_)
  ·(have hx:0<x:=om;have hh:=Lib.bitLen_half x (by omega) (by simp only[B] at h2;omega);have hdiv:x/2<x:=by omega);have hd2:=pL (a:=x) (k:=1) (by omega)
   generalize hy:x/2=y at *
   cbv;refine⟨zE om om,wP (by omega),(k+1,y),⟨by show k+1+Lib.bitLen y=bp;omega,by show y<B;omega⟩,hdiv,.le ?_ trivial rfl⟩;cbv;refine⟨zC om,zC ?_,trivial⟩;exact hd2
  ·have hx:x=0:=om;subst hx;rw[show Lib.bitLen 0=0 by decide] at h1;cbv
   (refine rC ?_;cbv)
   exact zC om
theorem zKG {x:Nat}(hx:x<4294967296):iand .u32 (x:Int) 1=((x%2:Nat):Int):=by
 unfold iand;have key:(BitVec.ofInt 32 (x:Int) &&& BitVec.ofInt 32 1).toNat=x%2:=by rw[BitVec.toNat_and,BitVec.ofInt_natCast,BitVec.toNat_ofNat,Nat.mod_eq_of_lt (show x<2^32 from hx)];show x &&& 1=x%2;exact Nat.and_one_is_mod x
 show IntKind.u32.wrap ((BitVec.ofInt 32 (x:Int) &&& BitVec.ofInt 32 1).toNat:Int)=_;rw[key];have:=qY ((x%2:Nat):Int);unfold nx at this;rw[this];omega
theorem zKF {k:Nat}(hk:k<32):ishl .u32 1 (k:Int)=((2^k:Nat):Int):=by
 unfold ishl;have e:((1:Int)*2^(min (k:Int).toNat IntKind.u32.bits))=((2^k:Nat):Int):=by
  (have:min (k:Int).toNat IntKind.u32.bits=k:=by simp[IntKind.bits];omega);rw[this]
  push_cast
  omega
 have h2:2^k<4294967296:=Nat.pow_lt_pow_right (m:=k) (n:=32) (by omega) hk;have:=qY ((2^k:Nat):Int);unfold nx at this;rw[e,this];generalize 2^k=z at *
 omega
theorem eL (l:List UInt32)(i:Nat):(l.getD (i/32) 0).toNat/2^(i%32)%2=val l/2^i%2:=by
 have h1:=cB (l:=l) (i/32);have h2:val (l.drop (i/32))=val l/B^(i/32):=by
  have h3:=gM l (i/32);have h4:=xS l (i/32);have hB:=Nat.pow_pos (n:=i/32) xN;generalize B^(i/32)=M at *
  rw[h3,Nat.add_mul_div_left _ _ hB,Nat.div_eq_of_lt h4];omega
 have h5:2^i=B^(i/32)*2^(i%32):=by show 2^i=(2^32)^(i/32)*2^(i%32);rw[<-Nat.pow_mul,<-Nat.pow_add];congr 1;omega
 rw[h1,h2,h5,<-Nat.div_div_eq_div_mul];generalize val l/B^(i/32)=y;have h6:B=2^(i%32)*2^(32-i%32):=by rw[<-Nat.pow_add,show i%32+(32-i%32)=32 by omega];rfl
 have h7:2^(32-i%32)=2*2^(31-i%32):=by rw[show 32-i%32=31-i%32+1 by omega,Nat.pow_succ,Nat.mul_comm]
 rw[h6,Nat.mod_mul_right_div_self,h7,Nat.mod_mul_right_mod]
theorem zI9 {A b i:Nat}(hb:0<b):A/2^i=2*(A/2^(i+1))+A/2^i%2:=by
 have:A/2^(i+1)=A/2^i/2:=by rw[Nat.pow_succ,<-Nat.div_div_eq_div_mul]
 rw[this];omega
theorem eA {A b i:Nat}(hb:0<b):(b<=2*(A/2^(i+1)%b)+A/2^i%2->A/2^i/b=2*(A/2^(i+1)/b)+1/\A/2^i%b=2*(A/2^(i+1)%b)+A/2^i%2-b) /\ (2*(A/2^(i+1)%b)+A/2^i%2<b->A/2^i/b=2*(A/2^(i+1)/b)/\A/2^i%b=2*(A/2^(i+1)%b)+A/2^i%2):=by
 have h1:=zI9 (A:=A) (i:=i) hb;have h2:=Nat.div_add_mod (A/2^(i+1)) b;have h3:=Nat.mod_lt (A/2^(i+1)) hb;have h4:A/2^i%2<2:=Nat.mod_lt _ (by omega);generalize A/2^(i+1)%b=r at *
 generalize A/2^(i+1)/b=Q at *
 generalize A/2^i%2=t at *
 rw[h1];generalize A/2^(i+1)=X at *
 have h5:b*(2*Q)=2*(b*Q):=Nat.mul_left_comm _ _ _;constructor
 ·(intro h;have e:2*X+t=b*(2*Q+1)+(2*r+t-b):=by rw[Nat.mul_add,Nat.mul_one];omega);rw[e,Nat.mul_add_div hb,Nat.mul_add_mod,Nat.div_eq_of_lt (by omega),Nat.mod_eq_of_lt (by omega)]
  exact⟨by omega,rfl⟩
 ·(intro h;have e:2*X+t=b*(2*Q)+(2*r+t):=by omega);rw[e,Nat.mul_add_div hb,Nat.mul_add_mod,Nat.div_eq_of_lt h,Nat.mod_eq_of_lt h]
  exact⟨by omega,rfl⟩
theorem mB {q:List UInt32}{i m:Nat}(h:val q=m*2^(i+1)):∃ t,(q.getD (i/32) 0).toNat=2^(i%32+1)*t:=by
 have h1:=cB (l:=q) (i/32);have h3:=gM q (i/32);have h4:=xS q (i/32);have h5:2^(i+1)=B^(i/32)*2^(i%32+1):=by show 2^(i+1)=(2^32)^(i/32)*2^(i%32+1);rw[<-Nat.pow_mul,<-Nat.pow_add];congr 1;omega
 have h2:val (q.drop (i/32))=2^(i%32+1)*m:=by
  have hB:=Nat.pow_pos (n:=i/32) xN;have e:val (q.drop (i/32))=val q/B^(i/32):=by
   generalize B^(i/32)=M at *
   rw[h3,Nat.add_mul_div_left _ _ hB,Nat.div_eq_of_lt h4];omega
  rw[e,h,h5,Nat.mul_comm m,Nat.mul_assoc,Nat.mul_div_cancel_left _ hB]
 have h6:B=2^(i%32+1)*2^(31-i%32):=by rw[<-Nat.pow_add,show i%32+1+(31-i%32)=32 by omega];rfl
 rw[h1,h2,h6,Nat.mul_mod_mul_left];exact⟨_,rfl⟩
theorem zO6:Pg.funcs[119]?=some Tryz.f119:=by rw[xX];rfl
theorem s159 (a b:List UInt32)(ha:a.length<2^34)(hb:b.length<2^34)(h0:val b≠0):zM 119 [nat a,nat b] (.tup [nat (zD (val a/val b)),nat (zD (val a%val b)),.int .i64 (fun _=>0)]):=by
 refine yH zO6 rfl rfl rfl rfl rfl ?_;have hB:B=4294967296:=rfl;have hbp:0<val b:=Nat.pos_of_ne_zero h0;have ca:=s206 a (by omega);have cb:=s206 b (by omega);have cbits:=s207 a (by omega);have hbits:=zI8 (val a);have hbl:qJ (val a)<=32*a.length:=Nat.le_trans zI7 (Nat.mul_le_mul_left _ (zT a));have hrl:∀ n,(zD (val a/2^n%val b)).length<=b.length:=fun n=>z4 (Nat.lt_trans (Nat.mod_lt _ hbp) (xE b));have hdiv0:val a/2^qJ (val a)=0:=Nat.div_eq_of_lt hbits;have hb1:val b<B*B->(if val b<B*B then val b else 0:Nat)=val b:=fun h=>if_pos h;have ha1:val a<B*B->(if val a<B*B then val a else 0:Nat)=val a:=fun h=>if_pos h;have cof:=fun (h:val a<B*B)=>s149 (val a/val b) (Nat.lt_of_le_of_lt (Nat.div_le_self _ _) h);have cor:=fun (h:val a<B*B)=>s149 (val a%val b) (Nat.lt_of_le_of_lt (Nat.mod_le _ _) h);have hda:decide (val a<B*B)=true->val a<B*B:=of_decide_eq_true;have hdb:decide (val b<B*B)=true->val b<B*B:=of_decide_eq_true;generalize (if val a<B*B then val a else 0:Nat)=x at *
 generalize (if val b<B*B then val b else 0:Nat)=y at *
 generalize decide (val a<B*B)=d1 at *
 generalize decide (val b<B*B)=d2 at *
 generalize hbb:qJ (val a)=bits at *
 cbv;refine cA ca ?_;cbv;refine cA cb ?_;cbv;refine vA (fun h=>?_) (fun h=>?_)
 ·subst h;have hyb:=hb1 (hdb rfl);cbv;refine zF (fun h=>absurd (show y=0 from om) (by rw[hyb];exact h0)) (fun h=>?_);cbv;refine vA (fun h1=>?_) (fun h1=>?_)
  ·(subst h1;have hxa:=ha1 (hda rfl);have c1:=cof (hda rfl);have c2:=cor (hda rfl);have hxl:val a<18446744073709551616:=hda rfl;have e1:nx .u64 (iquo (x:Int) (y:Int))=((val a/val b:Nat):Int):=by rw[jW,hxa,hyb];exact xG (Nat.lt_of_le_of_lt (Nat.div_le_self _ _) hxl));have e2:irem (x:Int) (y:Int)=((val a%val b:Nat):Int):=by rw[kV,hxa,hyb]
   cbv;refine z9 (fun _=>?_) (fun h=>absurd h (by decide));cbv;refine zZ 8 (by cbv) ?_;cbv;refine⟨v9 (by omega),?_⟩;refine cT (by exact⟨zC e1,trivial⟩) c1 rfl ?_;cbv;refine⟨v9 (by omega),?_⟩;refine cT (by exact⟨zC e2,trivial⟩) c2 rfl ?_;cbv
   (refine rC ?_;cbv)
   exact okA
  ·subst h1;cbv;refine⟨yJ om om,wM om om,?_⟩;cbv;refine cA cbits ?_;cbv;refine⟨zE om om,?_⟩;refine yB (σ:=Nat×List UInt32) (fun s=>⟨[(0,nat a),(1,nat b),(11,.osl 43 1 (fun _=>0) (fun _=>a.length)),(12,nat (zD (val a/2^s.1%val b))),(13,.int .i64 (fun _=>(s.1:Int)-1))],[(43,.arr 1 (fun _=>lm s.2))]⟩)
    (fun s=>s.1<=bits/\s.2.length=a.length/\val s.2=(val a/2^s.1/val b)*2^s.1) (fun s=>s.1) (bits,List.replicate a.length 0) ⟨Nat.le_refl _,by simp,by rw[hdiv0];simp[kH]⟩ (.trans (.frz 44 rfl rfl (by cbv;repeat' first|exact trivial|exact yL (by simp)|apply And.intro) (by cbv;repeat' first|exact trivial|apply And.intro)) (.le ?_ ?_ rfl)) ?_
   {cbv;exact⟨lR,lR,z5 rfl (by (try dsimp only [zJ] at *);simp only[zG];omega),zX (by rw[hdiv0,Nat.zero_mod,z6];rfl),lR,trivial⟩};{cbv;exact⟨zA (t5 _ _ (by (try dsimp only [zJ] at *);simp only[zG])),trivial⟩};intro s hs;obtain⟨k1,k2,k3⟩:=hs;generalize s.1=n at *
   generalize s.2=q at *
   cbv;refine zF (fun h5=>?_) (fun h5=>?_)
   ·(obtain⟨i,rfl⟩:∃ i,n=i+1:=⟨n-1,by (try dsimp only [zJ] at *);omega⟩;have hi1:((i+1:Nat):Int)-1=(i:Int):=by omega);have hq:nx .i64 (iquo (((i+1:Nat):Int)-1) 32)=((i/32:Nat):Int):=by rw[hi1,show iquo (i:Int) 32=((i/32:Nat):Int) from jW (b:=32),l6 (by omega) (by omega)]
    (have hr:irem (((i+1:Nat):Int)-1) 32=((i%32:Nat):Int):=by rw[hi1];exact kV (b:=32));have hil:i/32<a.length:=by omega
    have hbit:=eL a i;have hbit2:val a/2^i%2<2:=Nat.mod_lt _ (by omega);have hd:=yD (a.getD (i/32) 0);have hrl1:=hrl (i+1);have cs:=s208 (zD (val a/2^(i+1)%val b)) 1 (by omega) (by omega);rw[zK] at cs;have hl2:(zD (val a/2^(i+1)%val b*2^1)).length<=b.length+1:=by refine z4 ?_;rw[show B^(b.length+1)=B^b.length*B from Nat.pow_succ _ _];refine Nat.mul_lt_mul'' (Nat.lt_trans (Nat.mod_lt _ hbp) (xE b)) (by decide)
    (have cadd:=s156 (zD (val a/2^(i+1)%val b*2^1)) [UInt32.ofNat (val a/2^i%2)] (by omega) (by simp);have hv1:val [UInt32.ofNat (val a/2^i%2)]=val a/2^i%2:=by simp only[val,xB,B];omega);rw[zK,hv1] at cadd
    (have hdb:=eA (A:=val a) (i:=i) hbp;have e2r:val a/2^(i+1)%val b*2^1+val a/2^i%2=2*(val a/2^(i+1)%val b)+val a/2^i%2:=by omega);rw[e2r] at cadd
    have hl3:(zD (2*(val a/2^(i+1)%val b)+val a/2^i%2)).length<=b.length+1:=by
     refine z4 ?_;have h7:=Nat.lt_trans (Nat.mod_lt (val a/2^(i+1)) hbp) (xE b);have h8:B^b.length*4<=B^b.length*B:=Nat.mul_le_mul_left _ (by decide);rw[show B^(b.length+1)=B^b.length*B from Nat.pow_succ _ _];generalize B^b.length=P at *
     omega
    (have ccmp:=s205 (zD (2*(val a/2^(i+1)%val b)+val a/2^i%2)) b (by omega) (by omega);have csub:=s157 (zD (2*(val a/2^(i+1)%val b)+val a/2^i%2)) b (by omega) (by omega);rw[zK] at ccmp csub;obtain⟨hd1,hd2⟩:=hdb;have hfree:=mB (q:=q) (i:=i) (m:=val a/2^(i+1)/val b) k3;have hpow:(2:Nat)^(i+1)=2*2^i:=by rw[Nat.pow_succ,Nat.mul_comm]);have k3':val q=val a/2^(i+1)/val b*(2*2^i):=by rw[<-hpow];exact k3
    (have hcl:0<=vJ (2*(val a/2^(i+1)%val b)+val a/2^i%2) (val b)↔val b<=2*(val a/2^(i+1)%val b)+val a/2^i%2:=by unfold vJ;split;{omega};{split <;> omega});have hbitE:([[.int .u32 (iand .u32 (ishr .u32 (((a.getD (i/32) 0).toNat:Nat):Int) (irem (((i+1:Nat):Int)-1) 32)) 1)]]:List (List D))=lm [UInt32.ofNat (val a/2^i%2)]:=by rw[hr,pL (by omega),zKG (Nat.lt_of_le_of_lt (Nat.div_le_self _ _) hd),hbit];simp only[lm,List.map_cons,List.map_nil,xB];rw[Nat.mod_eq_of_lt (show val a/2^i%2<B by simp only[B];omega)]
    generalize vJ (2*(val a/2^(i+1)%val b)+val a/2^i%2) (val b)=C at *
    generalize hR:2*(val a/2^(i+1)%val b)+val a/2^i%2=R at *
    generalize zD (val a/2^(i+1)%val b*2^1)=L2 at *
    cbv;refine wA rfl (by exact⟨lR,zC rfl,trivial⟩) cs rfl ?_;cbv;refine⟨v9 (by omega),y5 (i/32) (by (try dsimp only [zJ] at *);rw[hq]) hil ?_⟩;cbv;refine⟨v9 (by omega),wP (by (try dsimp only [zJ] at *);rw[hr];omega),?_⟩;refine wA rfl (by exact⟨lR,zX hbitE,trivial⟩) cadd rfl ?_;cbv;refine cA ccmp ?_;cbv;refine zF (fun h6=>?_) (fun h6=>?_)
    ·(obtain⟨e1,e2⟩:=hd1 (hcl.1 h6);obtain⟨t,ht⟩:=hfree;have hqj:=yD (q.getD (i/32) 0);have hs32:i%32<32:=Nat.mod_lt _ (by omega);have h2s:2^(i%32)<2^(i%32+1):=Nat.pow_lt_pow_right (by omega) (by omega);have h2B:2^(i%32)<4294967296:=Nat.pow_lt_pow_right (n:=32) (by omega) hs32;have hor:(q.getD (i/32) 0).toNat ||| 2^(i%32)=(q.getD (i/32) 0).toNat+2^(i%32):=by rw[ht,Nat.or_comm,cI h2s,Nat.add_comm]);have horl:(q.getD (i/32) 0).toNat+2^(i%32)<B:=by rw[<-hor];exact Nat.or_lt_two_pow (n:=32) hqj h2B
     (have hW:ior .u32 (((q.getD (i/32) 0).toNat:Nat):Int) (ishl .u32 1 (irem (((i+1:Nat):Int)-1) 32))=(((q.getD (i/32) 0).toNat+2^(i%32):Nat):Int):=by rw[hr,zKF hs32,zB4 hqj h2B,hor]);have hq40:q.length<2^40:=by omega
     (have hjq:i/32<q.length:=by omega);cbv
     refine cA csub ?_;cbv;refine zZ 10 (by cbv) ?_;cbv;refine⟨v9 (by omega),zQ (by (try dsimp only [zJ] at *);rw[hq];omega) (by (try dsimp only [zJ] at *);rw[hq];omega),qI (i/32) (by (try dsimp only [zJ] at *);rw[hq];omega) hjq ?_⟩;cbv;refine⟨v9 (by omega),wP (by (try dsimp only [zJ] at *);rw[hr];omega),zQ (by (try dsimp only [zJ] at *);rw[hq];omega) (by (try dsimp only [zJ] at *);rw[hq];omega),qI (i/32) (by (try dsimp only [zJ] at *);rw[hq];omega) hjq ?_⟩;cbv;refine⟨zE om om,(i,q.set (i/32) (UInt32.ofNat ((q.getD (i/32) 0).toNat+2^(i%32)))),⟨by omega,by simpa using k2,?_⟩,by show i<i+1;omega,.le ?_ ?_ rfl⟩
     ·(show val (q.set (i/32) _)=val a/2^i/val b*2^i;have e3:=fT q hjq (UInt32.ofNat ((q.getD (i/32) 0).toNat+2^(i%32)));have e4:2^i=B^(i/32)*2^(i%32):=by show 2^i=(2^32)^(i/32)*2^(i%32);rw[<-Nat.pow_mul,<-Nat.pow_add];congr 1;omega);rw[xB,Nat.mod_eq_of_lt horl,Nat.mul_add,<-e4,k3'] at e3;rw[e1,Nat.add_mul,Nat.one_mul,Nat.mul_comm 2 (val a/2^(i+1)/val b),Nat.mul_assoc];omega
     {cbv;exact⟨lR,lR,lR,zX (by rw[e2]),zC om,trivial⟩}
     ·(cbv;have hset:(lm q).set (0+(nx .i64 (iquo (((i+1:Nat):Int)-1) 32)).toNat) [.int .u32 (ior .u32 (((q.getD (i/32) 0).toNat:Nat):Int) (ishl .u32 1 (irem (((i+1:Nat):Int)-1) 32)))]=lm (q.set (i/32) (UInt32.ofNat ((q.getD (i/32) 0).toNat+2^(i%32)))):=by rw[hq];exact kK q (by rw[Int.toNat_natCast,Nat.zero_add]) hW horl);exact⟨zA hset,trivial⟩
    {obtain⟨e1,e2⟩:=hd2 (by have:=fun e=>h6 (hcl.2 e);omega);cbv;refine⟨zE om om,(i,q),⟨by omega,k2,?_⟩,by show i<i+1;omega,.le ?_ ?_ rfl⟩;{show val q=val a/2^i/val b*2^i;rw[k3',e1,Nat.mul_comm 2 (val a/2^(i+1)/val b),Nat.mul_assoc]};{cbv;exact⟨lR,lR,lR,zX (by rw[e2]),zC om,trivial⟩};{cbv;exact⟨zA rfl,trivial⟩}}
   ·(have hn:n=0:=by (try dsimp only [zJ] at *);omega);subst hn
    rw[Nat.pow_zero,Nat.div_one,Nat.mul_one] at k3;have cm:=sR q (by omega);rw[k3] at cm;cbv;refine fO (.frz 43 rfl rfl ?_ ?_) rfl (by refine⟨zX ?_,trivial⟩;exact List.take_of_length_le (by show ((lm q).drop 0).length<=a.length;rw[List.drop_zero,zG];omega)) cm rfl ?_;{cbv;exact⟨yL (by rw[zG];omega),yL (by rw[zG];omega),trivial⟩};{exact trivial};cbv
    (refine rC ?_;cbv)
    exact⟨lR,zX (by rw[Nat.pow_zero,Nat.div_one]),lR,trivial⟩
 ·subst h;cbv;refine vA (fun h1=>?_) (fun h1=>?_)
  ·subst h1;cbv;refine z9 (fun h=>absurd h (by decide)) (fun _=>?_);cbv;refine⟨yJ om om,wM om om,?_⟩;cbv;refine cA cbits ?_;cbv;refine⟨zE om om,?_⟩;refine yB (σ:=Nat×List UInt32) (fun s=>⟨[(0,nat a),(1,nat b),(11,.osl 43 1 (fun _=>0) (fun _=>a.length)),(12,nat (zD (val a/2^s.1%val b))),(13,.int .i64 (fun _=>(s.1:Int)-1))],[(43,.arr 1 (fun _=>lm s.2))]⟩)
    (fun s=>s.1<=bits/\s.2.length=a.length/\val s.2=(val a/2^s.1/val b)*2^s.1) (fun s=>s.1) (bits,List.replicate a.length 0) ⟨Nat.le_refl _,by simp,by rw[hdiv0];simp[kH]⟩ (.trans (.frz 44 rfl rfl (by cbv;repeat' first|exact trivial|exact yL (by simp)|apply And.intro) (by cbv;repeat' first|exact trivial|apply And.intro)) (.le ?_ ?_ rfl)) ?_
   {cbv;exact⟨lR,lR,z5 rfl (by (try dsimp only [zJ] at *);simp only[zG];omega),zX (by rw[hdiv0,Nat.zero_mod,z6];rfl),lR,trivial⟩};{cbv;exact⟨zA (t5 _ _ (by (try dsimp only [zJ] at *);simp only[zG])),trivial⟩};intro s hs;obtain⟨k1,k2,k3⟩:=hs;generalize s.1=n at *
   generalize s.2=q at *
   cbv;refine zF (fun h5=>?_) (fun h5=>?_)
   ·(obtain⟨i,rfl⟩:∃ i,n=i+1:=⟨n-1,by (try dsimp only [zJ] at *);omega⟩;have hi1:((i+1:Nat):Int)-1=(i:Int):=by omega);have hq:nx .i64 (iquo (((i+1:Nat):Int)-1) 32)=((i/32:Nat):Int):=by rw[hi1,show iquo (i:Int) 32=((i/32:Nat):Int) from jW (b:=32),l6 (by omega) (by omega)]
    (have hr:irem (((i+1:Nat):Int)-1) 32=((i%32:Nat):Int):=by rw[hi1];exact kV (b:=32));have hil:i/32<a.length:=by omega
    have hbit:=eL a i;have hbit2:val a/2^i%2<2:=Nat.mod_lt _ (by omega);have hd:=yD (a.getD (i/32) 0);have hrl1:=hrl (i+1);have cs:=s208 (zD (val a/2^(i+1)%val b)) 1 (by omega) (by omega);rw[zK] at cs;have hl2:(zD (val a/2^(i+1)%val b*2^1)).length<=b.length+1:=by refine z4 ?_;rw[show B^(b.length+1)=B^b.length*B from Nat.pow_succ _ _];refine Nat.mul_lt_mul'' (Nat.lt_trans (Nat.mod_lt _ hbp) (xE b)) (by decide)
    (have cadd:=s156 (zD (val a/2^(i+1)%val b*2^1)) [UInt32.ofNat (val a/2^i%2)] (by omega) (by simp);have hv1:val [UInt32.ofNat (val a/2^i%2)]=val a/2^i%2:=by simp only[val,xB,B];omega);rw[zK,hv1] at cadd
    (have hdb:=eA (A:=val a) (i:=i) hbp;have e2r:val a/2^(i+1)%val b*2^1+val a/2^i%2=2*(val a/2^(i+1)%val b)+val a/2^i%2:=by omega);rw[e2r] at cadd
    have hl3:(zD (2*(val a/2^(i+1)%val b)+val a/2^i%2)).length<=b.length+1:=by
     refine z4 ?_;have h7:=Nat.lt_trans (Nat.mod_lt (val a/2^(i+1)) hbp) (xE b);have h8:B^b.length*4<=B^b.length*B:=Nat.mul_le_mul_left _ (by decide);rw[show B^(b.length+1)=B^b.length*B from Nat.pow_succ _ _];generalize B^b.length=P at *
     omega
    (have ccmp:=s205 (zD (2*(val a/2^(i+1)%val b)+val a/2^i%2)) b (by omega) (by omega);have csub:=s157 (zD (2*(val a/2^(i+1)%val b)+val a/2^i%2)) b (by omega) (by omega);rw[zK] at ccmp csub;obtain⟨hd1,hd2⟩:=hdb;have hfree:=mB (q:=q) (i:=i) (m:=val a/2^(i+1)/val b) k3;have hpow:(2:Nat)^(i+1)=2*2^i:=by rw[Nat.pow_succ,Nat.mul_comm]);have k3':val q=val a/2^(i+1)/val b*(2*2^i):=by rw[<-hpow];exact k3
    (have hcl:0<=vJ (2*(val a/2^(i+1)%val b)+val a/2^i%2) (val b)↔val b<=2*(val a/2^(i+1)%val b)+val a/2^i%2:=by unfold vJ;split;{omega};{split <;> omega});have hbitE:([[.int .u32 (iand .u32 (ishr .u32 (((a.getD (i/32) 0).toNat:Nat):Int) (irem (((i+1:Nat):Int)-1) 32)) 1)]]:List (List D))=lm [UInt32.ofNat (val a/2^i%2)]:=by rw[hr,pL (by omega),zKG (Nat.lt_of_le_of_lt (Nat.div_le_self _ _) hd),hbit];simp only[lm,List.map_cons,List.map_nil,xB];rw[Nat.mod_eq_of_lt (show val a/2^i%2<B by simp only[B];omega)]
    generalize vJ (2*(val a/2^(i+1)%val b)+val a/2^i%2) (val b)=C at *
    generalize hR:2*(val a/2^(i+1)%val b)+val a/2^i%2=R at *
    generalize zD (val a/2^(i+1)%val b*2^1)=L2 at *
    cbv;refine wA rfl (by exact⟨lR,zC rfl,trivial⟩) cs rfl ?_;cbv;refine⟨v9 (by omega),y5 (i/32) (by (try dsimp only [zJ] at *);rw[hq]) hil ?_⟩;cbv;refine⟨v9 (by omega),wP (by (try dsimp only [zJ] at *);rw[hr];omega),?_⟩;refine wA rfl (by exact⟨lR,zX hbitE,trivial⟩) cadd rfl ?_;cbv;refine cA ccmp ?_;cbv;refine zF (fun h6=>?_) (fun h6=>?_)
    ·(obtain⟨e1,e2⟩:=hd1 (hcl.1 h6);obtain⟨t,ht⟩:=hfree;have hqj:=yD (q.getD (i/32) 0);have hs32:i%32<32:=Nat.mod_lt _ (by omega);have h2s:2^(i%32)<2^(i%32+1):=Nat.pow_lt_pow_right (by omega) (by omega);have h2B:2^(i%32)<4294967296:=Nat.pow_lt_pow_right (n:=32) (by omega) hs32;have hor:(q.getD (i/32) 0).toNat ||| 2^(i%32)=(q.getD (i/32) 0).toNat+2^(i%32):=by rw[ht,Nat.or_comm,cI h2s,Nat.add_comm]);have horl:(q.getD (i/32) 0).toNat+2^(i%32)<B:=by rw[<-hor];exact Nat.or_lt_two_pow (n:=32) hqj h2B
     (have hW:ior .u32 (((q.getD (i/32) 0).toNat:Nat):Int) (ishl .u32 1 (irem (((i+1:Nat):Int)-1) 32))=(((q.getD (i/32) 0).toNat+2^(i%32):Nat):Int):=by rw[hr,zKF hs32,zB4 hqj h2B,hor]);have hq40:q.length<2^40:=by omega
     (have hjq:i/32<q.length:=by omega);cbv
     refine cA csub ?_;cbv;refine zZ 10 (by cbv) ?_;cbv;refine⟨v9 (by omega),zQ (by (try dsimp only [zJ] at *);rw[hq];omega) (by (try dsimp only [zJ] at *);rw[hq];omega),qI (i/32) (by (try dsimp only [zJ] at *);rw[hq];omega) hjq ?_⟩;cbv;refine⟨v9 (by omega),wP (by (try dsimp only [zJ] at *);rw[hr];omega),zQ (by (try dsimp only [zJ] at *);rw[hq];omega) (by (try dsimp only [zJ] at *);rw[hq];omega),qI (i/32) (by (try dsimp only [zJ] at *);rw[hq];omega) hjq ?_⟩;cbv;refine⟨zE om om,(i,q.set (i/32) (UInt32.ofNat ((q.getD (i/32) 0).toNat+2^(i%32)))),⟨by omega,by simpa using k2,?_⟩,by show i<i+1;omega,.le ?_ ?_ rfl⟩
     ·(show val (q.set (i/32) _)=val a/2^i/val b*2^i;have e3:=fT q hjq (UInt32.ofNat ((q.getD (i/32) 0).toNat+2^(i%32)));have e4:2^i=B^(i/32)*2^(i%32):=by show 2^i=(2^32)^(i/32)*2^(i%32);rw[<-Nat.pow_mul,<-Nat.pow_add];congr 1;omega);rw[xB,Nat.mod_eq_of_lt horl,Nat.mul_add,<-e4,k3'] at e3;rw[e1,Nat.add_mul,Nat.one_mul,Nat.mul_comm 2 (val a/2^(i+1)/val b),Nat.mul_assoc];omega
     {cbv;exact⟨lR,lR,lR,zX (by rw[e2]),zC om,trivial⟩}
     ·(cbv;have hset:(lm q).set (0+(nx .i64 (iquo (((i+1:Nat):Int)-1) 32)).toNat) [.int .u32 (ior .u32 (((q.getD (i/32) 0).toNat:Nat):Int) (ishl .u32 1 (irem (((i+1:Nat):Int)-1) 32)))]=lm (q.set (i/32) (UInt32.ofNat ((q.getD (i/32) 0).toNat+2^(i%32)))):=by rw[hq];exact kK q (by rw[Int.toNat_natCast,Nat.zero_add]) hW horl);exact⟨zA hset,trivial⟩
    {obtain⟨e1,e2⟩:=hd2 (by have:=fun e=>h6 (hcl.2 e);omega);cbv;refine⟨zE om om,(i,q),⟨by omega,k2,?_⟩,by show i<i+1;omega,.le ?_ ?_ rfl⟩;{show val q=val a/2^i/val b*2^i;rw[k3',e1,Nat.mul_comm 2 (val a/2^(i+1)/val b),Nat.mul_assoc]};{cbv;exact⟨lR,lR,lR,zX (by rw[e2]),zC om,trivial⟩};{cbv;exact⟨zA rfl,trivial⟩}}
   ·(have hn:n=0:=by (try dsimp only [zJ] at *);omega);subst hn
    rw[Nat.pow_zero,Nat.div_one,Nat.mul_one] at k3;have cm:=sR q (by omega);rw[k3] at cm;cbv;refine fO (.frz 43 rfl rfl ?_ ?_) rfl (by refine⟨zX ?_,trivial⟩;exact List.take_of_length_le (by show ((lm q).drop 0).length<=a.length;rw[List.drop_zero,zG];omega)) cm rfl ?_;{cbv;exact⟨yL (by rw[zG];omega),yL (by rw[zG];omega),trivial⟩};{exact trivial};cbv
    (refine rC ?_;cbv)
    exact⟨lR,zX (by rw[Nat.pow_zero,Nat.div_one]),lR,trivial⟩
  ·subst h1;cbv;refine⟨yJ om om,wM om om,?_⟩;cbv;refine cA cbits ?_;cbv;refine⟨zE om om,?_⟩;refine yB (σ:=Nat×List UInt32) (fun s=>⟨[(0,nat a),(1,nat b),(11,.osl 43 1 (fun _=>0) (fun _=>a.length)),(12,nat (zD (val a/2^s.1%val b))),(13,.int .i64 (fun _=>(s.1:Int)-1))],[(43,.arr 1 (fun _=>lm s.2))]⟩)
    (fun s=>s.1<=bits/\s.2.length=a.length/\val s.2=(val a/2^s.1/val b)*2^s.1) (fun s=>s.1) (bits,List.replicate a.length 0) ⟨Nat.le_refl _,by simp,by rw[hdiv0];simp[kH]⟩ (.trans (.frz 44 rfl rfl (by cbv;repeat' first|exact trivial|exact yL (by simp)|apply And.intro) (by cbv;repeat' first|exact trivial|apply And.intro)) (.le ?_ ?_ rfl)) ?_
   {cbv;exact⟨lR,lR,z5 rfl (by (try dsimp only [zJ] at *);simp only[zG];omega),zX (by rw[hdiv0,Nat.zero_mod,z6];rfl),lR,trivial⟩};{cbv;exact⟨zA (t5 _ _ (by (try dsimp only [zJ] at *);simp only[zG])),trivial⟩};intro s hs;obtain⟨k1,k2,k3⟩:=hs;generalize s.1=n at *
   generalize s.2=q at *
   cbv;refine zF (fun h5=>?_) (fun h5=>?_)
   ·(obtain⟨i,rfl⟩:∃ i,n=i+1:=⟨n-1,by (try dsimp only [zJ] at *);omega⟩;have hi1:((i+1:Nat):Int)-1=(i:Int):=by omega);have hq:nx .i64 (iquo (((i+1:Nat):Int)-1) 32)=((i/32:Nat):Int):=by rw[hi1,show iquo (i:Int) 32=((i/32:Nat):Int) from jW (b:=32),l6 (by omega) (by omega)]
    (have hr:irem (((i+1:Nat):Int)-1) 32=((i%32:Nat):Int):=by rw[hi1];exact kV (b:=32));have hil:i/32<a.length:=by omega
    have hbit:=eL a i;have hbit2:val a/2^i%2<2:=Nat.mod_lt _ (by omega);have hd:=yD (a.getD (i/32) 0);have hrl1:=hrl (i+1);have cs:=s208 (zD (val a/2^(i+1)%val b)) 1 (by omega) (by omega);rw[zK] at cs;have hl2:(zD (val a/2^(i+1)%val b*2^1)).length<=b.length+1:=by refine z4 ?_;rw[show B^(b.length+1)=B^b.length*B from Nat.pow_succ _ _];refine Nat.mul_lt_mul'' (Nat.lt_trans (Nat.mod_lt _ hbp) (xE b)) (by decide)
    (have cadd:=s156 (zD (val a/2^(i+1)%val b*2^1)) [UInt32.ofNat (val a/2^i%2)] (by omega) (by simp);have hv1:val [UInt32.ofNat (val a/2^i%2)]=val a/2^i%2:=by simp only[val,xB,B];omega);rw[zK,hv1] at cadd
    (have hdb:=eA (A:=val a) (i:=i) hbp;have e2r:val a/2^(i+1)%val b*2^1+val a/2^i%2=2*(val a/2^(i+1)%val b)+val a/2^i%2:=by omega);rw[e2r] at cadd
    have hl3:(zD (2*(val a/2^(i+1)%val b)+val a/2^i%2)).length<=b.length+1:=by
     refine z4 ?_;have h7:=Nat.lt_trans (Nat.mod_lt (val a/2^(i+1)) hbp) (xE b);have h8:B^b.length*4<=B^b.length*B:=Nat.mul_le_mul_left _ (by decide);rw[show B^(b.length+1)=B^b.length*B from Nat.pow_succ _ _];generalize B^b.length=P at *
     omega
    (have ccmp:=s205 (zD (2*(val a/2^(i+1)%val b)+val a/2^i%2)) b (by omega) (by omega);have csub:=s157 (zD (2*(val a/2^(i+1)%val b)+val a/2^i%2)) b (by omega) (by omega);rw[zK] at ccmp csub;obtain⟨hd1,hd2⟩:=hdb;have hfree:=mB (q:=q) (i:=i) (m:=val a/2^(i+1)/val b) k3;have hpow:(2:Nat)^(i+1)=2*2^i:=by rw[Nat.pow_succ,Nat.mul_comm]);have k3':val q=val a/2^(i+1)/val b*(2*2^i):=by rw[<-hpow];exact k3
    (have hcl:0<=vJ (2*(val a/2^(i+1)%val b)+val a/2^i%2) (val b)↔val b<=2*(val a/2^(i+1)%val b)+val a/2^i%2:=by unfold vJ;split;{omega};{split <;> omega});have hbitE:([[.int .u32 (iand .u32 (ishr .u32 (((a.getD (i/32) 0).toNat:Nat):Int) (irem (((i+1:Nat):Int)-1) 32)) 1)]]:List (List D))=lm [UInt32.ofNat (val a/2^i%2)]:=by rw[hr,pL (by omega),zKG (Nat.lt_of_le_of_lt (Nat.div_le_self _ _) hd),hbit];simp only[lm,List.map_cons,List.map_nil,xB];rw[Nat.mod_eq_of_lt (show val a/2^i%2<B by simp only[B];omega)]
    generalize vJ (2*(val a/2^(i+1)%val b)+val a/2^i%2) (val b)=C at *
    generalize hR:2*(val a/2^(i+1)%val b)+val a/2^i%2=R at *
    generalize zD (val a/2^(i+1)%val b*2^1)=L2 at *
    cbv;refine wA rfl (by exact⟨lR,zC rfl,trivial⟩) cs rfl ?_;cbv;refine⟨v9 (by omega),y5 (i/32) (by (try dsimp only [zJ] at *);rw[hq]) hil ?_⟩;cbv;refine⟨v9 (by omega),wP (by (try dsimp only [zJ] at *);rw[hr];omega),?_⟩;refine wA rfl (by exact⟨lR,zX hbitE,trivial⟩) cadd rfl ?_;cbv;refine cA ccmp ?_;cbv;refine zF (fun h6=>?_) (fun h6=>?_)
    ·(obtain⟨e1,e2⟩:=hd1 (hcl.1 h6);obtain⟨t,ht⟩:=hfree;have hqj:=yD (q.getD (i/32) 0);have hs32:i%32<32:=Nat.mod_lt _ (by omega);have h2s:2^(i%32)<2^(i%32+1):=Nat.pow_lt_pow_right (by omega) (by omega);have h2B:2^(i%32)<4294967296:=Nat.pow_lt_pow_right (n:=32) (by omega) hs32;have hor:(q.getD (i/32) 0).toNat ||| 2^(i%32)=(q.getD (i/32) 0).toNat+2^(i%32):=by rw[ht,Nat.or_comm,cI h2s,Nat.add_comm]);have horl:(q.getD (i/32) 0).toNat+2^(i%32)<B:=by rw[<-hor];exact Nat.or_lt_two_pow (n:=32) hqj h2B
     (have hW:ior .u32 (((q.getD (i/32) 0).toNat:Nat):Int) (ishl .u32 1 (irem (((i+1:Nat):Int)-1) 32))=(((q.getD (i/32) 0).toNat+2^(i%32):Nat):Int):=by rw[hr,zKF hs32,zB4 hqj h2B,hor]);have hq40:q.length<2^40:=by omega
     (have hjq:i/32<q.length:=by omega);cbv
     refine cA csub ?_;cbv;refine zZ 10 (by cbv) ?_;cbv;refine⟨v9 (by omega),zQ (by (try dsimp only [zJ] at *);rw[hq];omega) (by (try dsimp only [zJ] at *);rw[hq];omega),qI (i/32) (by (try dsimp only [zJ] at *);rw[hq];omega) hjq ?_⟩;cbv;refine⟨v9 (by omega),wP (by (try dsimp only [zJ] at *);rw[hr];omega),zQ (by (try dsimp only [zJ] at *);rw[hq];omega) (by (try dsimp only [zJ] at *);rw[hq];omega),qI (i/32) (by (try dsimp only [zJ] at *);rw[hq];omega) hjq ?_⟩;cbv;refine⟨zE om om,(i,q.set (i/32) (UInt32.ofNat ((q.getD (i/32) 0).toNat+2^(i%32)))),⟨by omega,by simpa using k2,?_⟩,by show i<i+1;omega,.le ?_ ?_ rfl⟩
     ·(show val (q.set (i/32) _)=val a/2^i/val b*2^i;have e3:=fT q hjq (UInt32.ofNat ((q.getD (i/32) 0).toNat+2^(i%32)));have e4:2^i=B^(i/32)*2^(i%32):=by show 2^i=(2^32)^(i/32)*2^(i%32);rw[<-Nat.pow_mul,<-Nat.pow_add];congr 1;omega);rw[xB,Nat.mod_eq_of_lt horl,Nat.mul_add,<-e4,k3'] at e3;rw[e1,Nat.add_mul,Nat.one_mul,Nat.mul_comm 2 (val a/2^(i+1)/val b),Nat.mul_assoc];omega
     {cbv;exact⟨lR,lR,lR,zX (by rw[e2]),zC om,trivial⟩}
     ·(cbv;have hset:(lm q).set (0+(nx .i64 (iquo (((i+1:Nat):Int)-1) 32)).toNat) [.int .u32 (ior .u32 (((q.getD (i/32) 0).toNat:Nat):Int) (ishl .u32 1 (irem (((i+1:Nat):Int)-1) 32)))]=lm (q.set (i/32) (UInt32.ofNat ((q.getD (i/32) 0).toNat+2^(i%32)))):=by rw[hq];exact kK q (by rw[Int.toNat_natCast,Nat.zero_add]) hW horl);exact⟨zA hset,trivial⟩
    {obtain⟨e1,e2⟩:=hd2 (by have:=fun e=>h6 (hcl.2 e);omega);cbv;refine⟨zE om om,(i,q),⟨by omega,k2,?_⟩,by show i<i+1;omega,.le ?_ ?_ rfl⟩;{show val q=val a/2^i/val b*2^i;rw[k3',e1,Nat.mul_comm 2 (val a/2^(i+1)/val b),Nat.mul_assoc]};{cbv;exact⟨lR,lR,lR,zX (by rw[e2]),zC om,trivial⟩};{cbv;exact⟨zA rfl,trivial⟩}}
   ·(have hn:n=0:=by (try dsimp only [zJ] at *);omega);subst hn
    rw[Nat.pow_zero,Nat.div_one,Nat.mul_one] at k3;have cm:=sR q (by omega);rw[k3] at cm;cbv;refine fO (.frz 43 rfl rfl ?_ ?_) rfl (by refine⟨zX ?_,trivial⟩;exact List.take_of_length_le (by show ((lm q).drop 0).length<=a.length;rw[List.drop_zero,zG];omega)) cm rfl ?_;{cbv;exact⟨yL (by rw[zG];omega),yL (by rw[zG];omega),trivial⟩};{exact trivial};cbv
    (refine rC ?_;cbv)
    exact⟨lR,zX (by rw[Nat.pow_zero,Nat.div_one]),lR,trivial⟩
end Go.Proofs.YtfainocfaddbdaaGreat
