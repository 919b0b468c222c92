/- A part of the proof: ReD, ReE, ReF, ReG, ReH. -/
import Derived.Test.YtaeaffgjdcigoaaGreatG18
set_option linter.all false
namespace Go.Proofs.YtaeaffgjdcigoaaGreat
open Go
set_option maxRecDepth 100000
def Zj {a k:Nat}(hk:k<=32):ishr .u32 (a:Int) (k:Int)=((a/2^k:Nat):Int):=by grind [ishr,IntKind.bits]
def A2 (n:Nat):n<2^gE n:=by
 unfold gE;split;{omega}
 ·(rename_i h;have hp:0<(zJ n).length:=by rcases Vl (zJ n).length with e|e;exact absurd (wA.1 (j3 e)) h;exact e);have h1:=z6 (zJ n) ((zJ n).length-1)
  (have h2:=w5 (zJ n) ((zJ n).length-1);have h3:=Yg _ _ (yD ((zJ n).getD ((zJ n).length-1) 0).toNat) (yM _);rw[yW oM,zR] at h1;have h4:2^(32*((zJ n).length-1))=B^((zJ n).length-1):=by rw[Vh,show (2:Nat)^32=B from rfl]);rw[bJ,h4]
  generalize ((zJ n).getD ((zJ n).length-1) 0).toNat=t at *;have h6:=vQ (B^((zJ n).length-1)) (show t+1<=2^Lib.bitLen t from h3);grind
def OG (l:List UInt32)(hl:l.length<2^40):zD 182 [nat l] (iV ((gE (val l):Int))):=by
 refine sF Tryz.f182 ?_;have hl':=xF (z7 l) hl;have c1:=i5 l oM;have hb0:(zJ (val l)).length=0->gE (val l)=0:=λh=>lY.2 (wA.1 (j3 h));have hb1:(zJ (val l)).length≠0->gE (val l)=32*((zJ (val l)).length-1)+Lib.bitLen ((zJ (val l)).getD ((zJ (val l)).length-1) 0).toNat:=λh=>by rw[gE,if_neg (λe=>h (by grind [y4]))]
 generalize gE (val l)=bp at *;generalize zJ (val l)=p at *;cbv;refine cA c1 ?_;cbv;refine zE (λh=>?_) (λh=>?_)
 ·cbv
  (refine rC ?_;cbv)
  exact zB (by rw[hb0 om];rfl)
 ·have hp:p.length≠0:=om;have hbp:=hb1 hp;have ht:=yM (p.getD (p.length-1) 0);have htl:=d7 ht;cbv;refine⟨zC om om,zC om om,zC om om,xG (p.length-1) om om ?_⟩;generalize (p.getD (p.length-1) 0).toNat=t at *;cbv;refine zW (σ:=Nat×Nat) (λs=>⟨[(3,iV s.1),(4,.int .u32 (λ_=>(s.2:Int)))],[]⟩) (λs=>s.1+Lib.bitLen s.2=bp/\s.2<B) (λs=>s.2) (32*(p.length-1),t) ⟨hbp.symm,ht⟩ (.le ?_ trivial rfl) ?_;{cbv;exact⟨zB om,lR,trivial⟩};intro s hs;obtain⟨h1,h2⟩:=hs;generalize s.1=k at *;generalize s.2=x at *;cbv;refine zE (λh3=>?_) (λh3=>?_)
  ·(have hx:0<x:=om;have hh:=Lib.bitLen_half x oM (by grind [B]);have hdiv:x/2<x:=by omega);have hd2:=Zj (a:=x) (k:=1) oM
   generalize hy:x/2=y at *;cbv;refine⟨zC om om,v8 oM,(k+1,y),⟨by grind,by omega⟩,hdiv,.le ?_ trivial rfl⟩;cbv;refine⟨zB om,zB ?_,trivial⟩;exact hd2
  ·have hx:x=0:=om;subst hx;rw[show Lib.bitLen 0=0 by decide] at h1;cbv
   (refine rC ?_;cbv)
   exact zB om
def Ad {x:Nat}(hx:x<4294967296):iand .u32 (x:Int) 1=((x%2:Nat):Int):=by
 unfold iand;have key:(BitVec.ofInt 32 (x:Int) &&& BitVec.ofInt 32 1).toNat=x%2:=by grind
 show IntKind.u32.wrap ((BitVec.ofInt 32 (x:Int) &&& BitVec.ofInt 32 1).toNat:Int)=_;rw[key];have:=gT ((x%2:Nat):Int);grind [nx]
def B8 {k:Nat}(hk:k<32):ishl .u32 1 (k:Int)=((2^k:Nat):Int):=by
 unfold ishl;have e:((1:Int)*2^(min (k:Int).toNat IntKind.u32.bits))=((2^k:Nat):Int):=by grind [IntKind.bits]
 have h2:2^k<4294967296:=p8 (m:=k) (n:=32) oM hk;have:=gT ((2^k:Nat):Int);grind [nx]
def Va (l:List UInt32)(i:Nat):(l.getD (i/32) 0).toNat/2^(i%32)%2=val l/2^i%2:=by
 have h1:=tD (l:=l) (i/32);have h2:val (l.drop (i/32))=val l/B^(i/32):=by have h3:=aS l (i/32);have h4:=w5 l (i/32);grind [Nat.add_mul_div_left,Nat.div_eq_of_lt]
 have h5:2^i=B^(i/32)*2^(i%32):=by show 2^i=(2^32)^(i/32)*2^(i%32);rw[<-Vh,<-bJ];grind
 rw[h1,h2,h5,<-Nat.div_div_eq_div_mul];generalize val l/B^(i/32)=y;have h6:B=2^(i%32)*2^(32-i%32):=by rw[<-bJ,show i%32+(32-i%32)=32 by omega];rfl
 have h7:2^(32-i%32)=2*2^(31-i%32):=by rw[show 32-i%32=31-i%32+1 by omega,uC,qX]
 rw[h6,Nat.mod_mul_right_div_self,h7,Nat.mod_mul_right_mod]
def A3 {A b i:Nat}(hb:0<b):A/2^i=2*(A/2^(i+1))+A/2^i%2:=by
 have:A/2^(i+1)=A/2^i/2:=by rw[uC,<-Nat.div_div_eq_div_mul]
 omega
def WT {A b i:Nat}(hb:0<b):(b<=2*(A/2^(i+1)%b)+A/2^i%2->A/2^i/b=2*(A/2^(i+1)/b)+1/\A/2^i%b=2*(A/2^(i+1)%b)+A/2^i%2-b) /\ (2*(A/2^(i+1)%b)+A/2^i%2<b->A/2^i/b=2*(A/2^(i+1)/b)/\A/2^i%b=2*(A/2^(i+1)%b)+A/2^i%2):=by
 have h1:=A3 (A:=A) (i:=i) hb;have h2:=Nat.div_add_mod (A/2^(i+1)) b;have h3:=vZ (A/2^(i+1)) hb;have h4:A/2^i%2<2:=vZ _ oM;generalize A/2^(i+1)%b=r at *;generalize A/2^(i+1)/b=Q at *;generalize A/2^i%2=t at *;rw[h1];generalize A/2^(i+1)=X at *;have h5:b*(2*Q)=2*(b*Q):=Nat.mul_left_comm _ _ _;constructor
 ·(intro h;have e:2*X+t=b*(2*Q+1)+(2*r+t-b):=by grind);rw[e,Nat.mul_add_div hb,Nat.mul_add_mod,Hd oM,qY oM]
  omega
 ·(intro h;have e:2*X+t=b*(2*Q)+(2*r+t):=by omega);rw[e,Nat.mul_add_div hb,Nat.mul_add_mod,Hd h,qY h]
  omega
def Z2 {q:List UInt32}{i m:Nat}(h:val q=m*2^(i+1)):∃ t,(q.getD (i/32) 0).toNat=2^(i%32+1)*t:=by
 have h1:=tD (l:=q) (i/32);have h3:=aS q (i/32);have h4:=w5 q (i/32);have h5:2^(i+1)=B^(i/32)*2^(i%32+1):=by show 2^(i+1)=(2^32)^(i/32)*2^(i%32+1);rw[<-Vh,<-bJ];grind
 have h2:val (q.drop (i/32))=2^(i%32+1)*m:=by
  (have hB:=Nat.pow_pos (n:=i/32) w8;have e:val (q.drop (i/32))=val q/B^(i/32):=by grind [Nat.add_mul_div_left,Nat.div_eq_of_lt]);grind [Nat.mul_comm,Nat.mul_assoc,Nat.mul_div_cancel_left]
 have h6:B=2^(i%32+1)*2^(31-i%32):=by rw[<-bJ,show i%32+1+(31-i%32)=32 by omega];rfl
 rw[h1,h2,h6,Nat.mul_mod_mul_left];grind
def L5:Pg.funcs[133]?=some Tryz.f133:=by rw[uZ];rfl
def Ms (a b:List UInt32)(ha:a.length<2^34)(hb:b.length<2^34)(h0:val b≠0):zD 133 [nat a,nat b] (.tup [nat (zJ (val a/val b)),nat (zJ (val a%val b)),iV 0]):=by
 refine aW L5 rfl rfl rfl rfl rfl ?_;have hB:B=4294967296:=rfl;have hbp:0<val b:=pF h0;have ca:=Lu a oM;have cb:=Lu b oM;have cbits:=OG a oM;have hbits:=A2 (val a);have hbl:gE (val a)<=32*a.length:=vR A1 (vQ _ (z7 a));have hrl:∀ n,(zJ (val a/2^n%val b)).length<=b.length:=λn=>yF (fJ (vZ _ hbp) (x5 b));have hdiv0:val a/2^gE (val a)=0:=Hd hbits;have hb1:val b<B*B->(if val b<B*B then val b else 0:Nat)=val b:=λh=>if_pos h;have ha1:val a<B*B->(if val a<B*B then val a else 0:Nat)=val a:=λh=>if_pos h;have cof:=λ(h:val a<B*B)=>Mt (val a/val b) (xF (eW _ _) h);have cor:=λ(h:val a<B*B)=>Mt (val a%val b) (xF (Nat.mod_le _ _) h);have hda:decide (val a<B*B)=true->val a<B*B:=of_decide_eq_true;have hdb:decide (val b<B*B)=true->val b<B*B:=of_decide_eq_true;generalize (if val a<B*B then val a else 0:Nat)=x at *;generalize (if val b<B*B then val b else 0:Nat)=y at *;generalize decide (val a<B*B)=d1 at *;generalize decide (val b<B*B)=d2 at *;generalize hbb:gE (val a)=bits at *;cbv;refine cA ca ?_;cbv;refine cA cb ?_;cbv;refine yA (λh=>?_) (λh=>?_)
 ·subst h;have hyb:=hb1 (hdb rfl);cbv;refine zE (λh=>absurd (show y=0 from om) oM) (λh=>?_);cbv;refine yA (λh1=>?_) (λh1=>?_)
  ·(subst h1;have hxa:=ha1 (hda rfl);have c1:=cof (hda rfl);have c2:=cor (hda rfl);have hxl:val a<18446744073709551616:=hda rfl;have e1:nx .u64 (iquo (x:Int) (y:Int))=((val a/val b:Nat):Int):=by rw[Zm,hxa,hyb];exact x6 (xF (eW _ _) hxl));have e2:irem (x:Int) (y:Int)=((val a%val b:Nat):Int):=by grind [uJ]
   cbv;refine zP (λ_=>?_) (λh=>absurd h (by decide));cbv;refine zM 8 (by cbv) ?_;cbv;refine⟨vX oM,?_⟩;refine wB (by exact⟨zB e1,trivial⟩) c1 rfl ?_;cbv;refine⟨vX oM,?_⟩;refine wB (by exact⟨zB e2,trivial⟩) c2 rfl ?_;cbv;exact rA
  ·subst h1;cbv;refine⟨z5 om om,kX om om,?_⟩;cbv;refine cA cbits ?_;cbv;refine⟨zC om om,?_⟩;refine zW (σ:=Nat×List UInt32) (λs=>⟨[(0,nat a),(1,nat b),(11,oV 43 1 a.length),(12,nat (zJ (val a/2^s.1%val b))),(13,iV ((s.1:Int)-1))],[(43,aV 1 (lm s.2))]⟩)
    (λs=>s.1<=bits/\s.2.length=a.length/\val s.2=(val a/2^s.1/val b)*2^s.1) (λs=>s.1) (bits,List.replicate a.length 0) ⟨yD _,by simp,by rw[hdiv0];simp[gW]⟩ (.trans (.frz 44 rfl rfl (by cbv;repeat' first|exact trivial|exact z8 (by simp)|apply And.intro) (by cbv;repeat' first|exact trivial|apply And.intro)) (.le ?_ ?_ rfl)) ?_
   {cbv;exact⟨lR,lR,zZ rfl (by (try dsimp only [zY] at *);grind [zI]),zS (by rw[hdiv0,Nat.zero_mod,y4];rfl),lR,trivial⟩};{cbv;exact⟨zH (ZW _ _ (by (try dsimp only [zY] at *);simp only[zI])),trivial⟩};intro s hs;obtain⟨k1,k2,k3⟩:=hs;generalize s.1=n at *;generalize s.2=q at *;cbv;refine zE (λh5=>?_) (λh5=>?_)
   ·(obtain⟨i,rfl⟩:∃ i,n=i+1:=⟨n-1,by exact om⟩;have hi1:((i+1:Nat):Int)-1=(i:Int):=by omega);have hq:nx .i64 (iquo (((i+1:Nat):Int)-1) 32)=((i/32:Nat):Int):=by grind [iquo,ZV]
    (have hr:irem (((i+1:Nat):Int)-1) 32=((i%32:Nat):Int):=by rw[hi1];exact uJ (b:=32));have hil:i/32<a.length:=by omega
    have hbit:=Va a i;have hbit2:val a/2^i%2<2:=vZ _ oM;have hd:=yM (a.getD (i/32) 0);have hrl1:=hrl (i+1);have cs:=Mr (zJ (val a/2^(i+1)%val b)) 1 oM oM;rw[zR] at cs;have hl2:(zJ (val a/2^(i+1)%val b*2^1)).length<=b.length+1:=by refine yF ?_;rw[show B^(b.length+1)=B^b.length*B from uC _ _];refine UW (fJ (vZ _ hbp) (x5 b)) (by decide)
    (have cadd:=RC (zJ (val a/2^(i+1)%val b*2^1)) [UInt32.ofNat (val a/2^i%2)] oM (by simp);have hv1:val [UInt32.ofNat (val a/2^i%2)]=val a/2^i%2:=by simp only[val,xY,B];omega);rw[zR,hv1] at cadd
    (have hdb:=WT (A:=val a) (i:=i) hbp;have e2r:val a/2^(i+1)%val b*2^1+val a/2^i%2=2*(val a/2^(i+1)%val b)+val a/2^i%2:=by omega);rw[e2r] at cadd
    have hl3:(zJ (2*(val a/2^(i+1)%val b)+val a/2^i%2)).length<=b.length+1:=by refine yF ?_;have h7:=fJ (vZ (val a/2^(i+1)) hbp) (x5 b);have h8:B^b.length*4<=B^b.length*B:=vQ _ (by decide);rw[show B^(b.length+1)=B^b.length*B from uC _ _];generalize B^b.length=P at *;omega
    (have ccmp:=Ru (zJ (2*(val a/2^(i+1)%val b)+val a/2^i%2)) b oM oM;have csub:=C3 (zJ (2*(val a/2^(i+1)%val b)+val a/2^i%2)) b oM oM;rw[zR] at ccmp csub;obtain⟨hd1,hd2⟩:=hdb;have hfree:=Z2 (q:=q) (i:=i) (m:=val a/2^(i+1)/val b) k3;have hpow:(2:Nat)^(i+1)=2*2^i:=by rw[uC,qX]);have k3':val q=val a/2^(i+1)/val b*(2*2^i):=by rw[<-hpow];exact k3
    (have hcl:0<=qQ (2*(val a/2^(i+1)%val b)+val a/2^i%2) (val b)↔val b<=2*(val a/2^(i+1)%val b)+val a/2^i%2:=by unfold qQ;split;{omega};{split <;> omega});have hbitE:([[.int .u32 (iand .u32 (ishr .u32 (((a.getD (i/32) 0).toNat:Nat):Int) (irem (((i+1:Nat):Int)-1) 32)) 1)]]:List (List D))=lm [UInt32.ofNat (val a/2^i%2)]:=by rw[hr,Zj oM,Ad (xF (eW _ _) hd),hbit];simp only[lm,jB,Vn,xY];rw[qY (show val a/2^i%2<B by simp only[B];omega)]
    generalize qQ (2*(val a/2^(i+1)%val b)+val a/2^i%2) (val b)=C at *;generalize hR:2*(val a/2^(i+1)%val b)+val a/2^i%2=R at *;generalize zJ (val a/2^(i+1)%val b*2^1)=L2 at *;cbv;refine yP rfl (by exact⟨lR,zB rfl,trivial⟩) cs rfl ?_;cbv;refine⟨vX oM,xG (i/32) (by (try dsimp only [zY] at *);rw[hq]) hil ?_⟩;cbv;refine⟨vX oM,v8 (by (try dsimp only [zY] at *);rw[hr];omega),?_⟩;refine yP rfl (by exact⟨lR,zS hbitE,trivial⟩) cadd rfl ?_;cbv;refine cA ccmp ?_;cbv;refine zE (λh6=>?_) (λh6=>?_)
    ·(obtain⟨e1,e2⟩:=hd1 (hcl.1 h6);obtain⟨t,ht⟩:=hfree;have hqj:=yM (q.getD (i/32) 0);have hs32:i%32<32:=vZ _ oM;have h2s:2^(i%32)<2^(i%32+1):=p8 oM oM;have h2B:2^(i%32)<4294967296:=p8 (n:=32) oM hs32;have hor:(q.getD (i/32) 0).toNat ||| 2^(i%32)=(q.getD (i/32) 0).toNat+2^(i%32):=by rw[ht,Nat.or_comm,tI h2s,YK]);have horl:(q.getD (i/32) 0).toNat+2^(i%32)<B:=by rw[<-hor];exact UX (n:=32) hqj h2B
     (have hW:ior .u32 (((q.getD (i/32) 0).toNat:Nat):Int) (ishl .u32 1 (irem (((i+1:Nat):Int)-1) 32))=(((q.getD (i/32) 0).toNat+2^(i%32):Nat):Int):=by rw[hr,B8 hs32,QP hqj h2B,hor]);have hq40:q.length<2^40:=by omega
     (have hjq:i/32<q.length:=by omega);cbv
     refine cA csub ?_;cbv;refine zM 10 (by cbv) ?_;cbv;refine⟨vX oM,yZ (by (try dsimp only [zY] at *);rw[hq];omega) (by (try dsimp only [zY] at *);rw[hq];omega),j9 (i/32) (by (try dsimp only [zY] at *);rw[hq];omega) hjq ?_⟩;cbv;refine⟨vX oM,v8 (by (try dsimp only [zY] at *);rw[hr];omega),yZ (by (try dsimp only [zY] at *);rw[hq];omega) (by (try dsimp only [zY] at *);rw[hq];omega),j9 (i/32) (by (try dsimp only [zY] at *);rw[hq];omega) hjq ?_⟩;cbv;refine⟨zC om om,(i,q.set (i/32) (UInt32.ofNat ((q.getD (i/32) 0).toNat+2^(i%32)))),⟨by omega,by simpa using k2,?_⟩,by show i<i+1;omega,.le ?_ ?_ rfl⟩
     ·(show val (q.set (i/32) _)=val a/2^i/val b*2^i;have e3:=rD q hjq (UInt32.ofNat ((q.getD (i/32) 0).toNat+2^(i%32)));have e4:2^i=B^(i/32)*2^(i%32):=by show 2^i=(2^32)^(i/32)*2^(i%32);rw[<-Vh,<-bJ];congr 1;omega);rw[xY,qY horl,qO,<-e4,k3'] at e3;rw[e1,gI,Nat.one_mul,qX 2 (val a/2^(i+1)/val b),gF];omega
     {cbv;exact⟨lR,lR,lR,zS (by rw[e2]),zB om,trivial⟩}
     ·(cbv;have hset:(lm q).set (0+(nx .i64 (iquo (((i+1:Nat):Int)-1) 32)).toNat) [.int .u32 (ior .u32 (((q.getD (i/32) 0).toNat:Nat):Int) (ishl .u32 1 (irem (((i+1:Nat):Int)-1) 32)))]=lm (q.set (i/32) (UInt32.ofNat ((q.getD (i/32) 0).toNat+2^(i%32)))):=by rw[hq];exact fE q (by rw[mG,jQ]) hW horl);exact⟨zH hset,trivial⟩
    {obtain⟨e1,e2⟩:=hd2 (by have:=λe=>h6 (hcl.2 e);omega);cbv;refine⟨zC om om,(i,q),⟨by omega,k2,?_⟩,by show i<i+1;omega,.le ?_ ?_ rfl⟩;{show val q=val a/2^i/val b*2^i;rw[k3',e1,qX 2 (val a/2^(i+1)/val b),gF]};{cbv;exact⟨lR,lR,lR,zS (by rw[e2]),zB om,trivial⟩};{cbv;exact⟨zH rfl,trivial⟩}}
   ·(have hn:n=0:=by exact om);subst hn
    rw[Nat.pow_zero,Nat.div_one,t8] at k3;have cm:=i5 q oM;rw[k3] at cm;cbv;refine qF (.frz 43 rfl rfl ?_ ?_) rfl (by refine⟨zS ?_,trivial⟩;exact yW (by show ((lm q).drop 0).length<=a.length;rw[xM,zI];omega)) cm rfl ?_;{cbv;exact⟨z8 (by grind [zI]),z8 (by grind [zI]),trivial⟩};{exact trivial};cbv
    (refine rC ?_;cbv)
    exact⟨lR,zS (by grind),lR,trivial⟩
 ·subst h;cbv;refine yA (λh1=>?_) (λh1=>?_)
  ·subst h1;cbv;refine zP (λh=>absurd h (by decide)) (λ_=>?_);cbv;refine⟨z5 om om,kX om om,?_⟩;cbv;refine cA cbits ?_;cbv;refine⟨zC om om,?_⟩;refine zW (σ:=Nat×List UInt32) (λs=>⟨[(0,nat a),(1,nat b),(11,oV 43 1 a.length),(12,nat (zJ (val a/2^s.1%val b))),(13,iV ((s.1:Int)-1))],[(43,aV 1 (lm s.2))]⟩)
    (λs=>s.1<=bits/\s.2.length=a.length/\val s.2=(val a/2^s.1/val b)*2^s.1) (λs=>s.1) (bits,List.replicate a.length 0) ⟨yD _,by simp,by rw[hdiv0];simp[gW]⟩ (.trans (.frz 44 rfl rfl (by cbv;repeat' first|exact trivial|exact z8 (by simp)|apply And.intro) (by cbv;repeat' first|exact trivial|apply And.intro)) (.le ?_ ?_ rfl)) ?_
   {cbv;exact⟨lR,lR,zZ rfl (by (try dsimp only [zY] at *);grind [zI]),zS (by rw[hdiv0,Nat.zero_mod,y4];rfl),lR,trivial⟩};{cbv;exact⟨zH (ZW _ _ (by (try dsimp only [zY] at *);simp only[zI])),trivial⟩};intro s hs;obtain⟨k1,k2,k3⟩:=hs;generalize s.1=n at *;generalize s.2=q at *;cbv;refine zE (λh5=>?_) (λh5=>?_)
   ·(obtain⟨i,rfl⟩:∃ i,n=i+1:=⟨n-1,by exact om⟩;have hi1:((i+1:Nat):Int)-1=(i:Int):=by omega);have hq:nx .i64 (iquo (((i+1:Nat):Int)-1) 32)=((i/32:Nat):Int):=by grind [iquo,ZV]
    (have hr:irem (((i+1:Nat):Int)-1) 32=((i%32:Nat):Int):=by rw[hi1];exact uJ (b:=32));have hil:i/32<a.length:=by omega
    have hbit:=Va a i;have hbit2:val a/2^i%2<2:=vZ _ oM;have hd:=yM (a.getD (i/32) 0);have hrl1:=hrl (i+1);have cs:=Mr (zJ (val a/2^(i+1)%val b)) 1 oM oM;rw[zR] at cs;have hl2:(zJ (val a/2^(i+1)%val b*2^1)).length<=b.length+1:=by refine yF ?_;rw[show B^(b.length+1)=B^b.length*B from uC _ _];refine UW (fJ (vZ _ hbp) (x5 b)) (by decide)
    (have cadd:=RC (zJ (val a/2^(i+1)%val b*2^1)) [UInt32.ofNat (val a/2^i%2)] oM (by simp);have hv1:val [UInt32.ofNat (val a/2^i%2)]=val a/2^i%2:=by simp only[val,xY,B];omega);rw[zR,hv1] at cadd
    (have hdb:=WT (A:=val a) (i:=i) hbp;have e2r:val a/2^(i+1)%val b*2^1+val a/2^i%2=2*(val a/2^(i+1)%val b)+val a/2^i%2:=by omega);rw[e2r] at cadd
    have hl3:(zJ (2*(val a/2^(i+1)%val b)+val a/2^i%2)).length<=b.length+1:=by refine yF ?_;have h7:=fJ (vZ (val a/2^(i+1)) hbp) (x5 b);have h8:B^b.length*4<=B^b.length*B:=vQ _ (by decide);rw[show B^(b.length+1)=B^b.length*B from uC _ _];generalize B^b.length=P at *;omega
    (have ccmp:=Ru (zJ (2*(val a/2^(i+1)%val b)+val a/2^i%2)) b oM oM;have csub:=C3 (zJ (2*(val a/2^(i+1)%val b)+val a/2^i%2)) b oM oM;rw[zR] at ccmp csub;obtain⟨hd1,hd2⟩:=hdb;have hfree:=Z2 (q:=q) (i:=i) (m:=val a/2^(i+1)/val b) k3;have hpow:(2:Nat)^(i+1)=2*2^i:=by rw[uC,qX]);have k3':val q=val a/2^(i+1)/val b*(2*2^i):=by rw[<-hpow];exact k3
    (have hcl:0<=qQ (2*(val a/2^(i+1)%val b)+val a/2^i%2) (val b)↔val b<=2*(val a/2^(i+1)%val b)+val a/2^i%2:=by unfold qQ;split;{omega};{split <;> omega});have hbitE:([[.int .u32 (iand .u32 (ishr .u32 (((a.getD (i/32) 0).toNat:Nat):Int) (irem (((i+1:Nat):Int)-1) 32)) 1)]]:List (List D))=lm [UInt32.ofNat (val a/2^i%2)]:=by rw[hr,Zj oM,Ad (xF (eW _ _) hd),hbit];simp only[lm,jB,Vn,xY];rw[qY (show val a/2^i%2<B by simp only[B];omega)]
    generalize qQ (2*(val a/2^(i+1)%val b)+val a/2^i%2) (val b)=C at *;generalize hR:2*(val a/2^(i+1)%val b)+val a/2^i%2=R at *;generalize zJ (val a/2^(i+1)%val b*2^1)=L2 at *;cbv;refine yP rfl (by exact⟨lR,zB rfl,trivial⟩) cs rfl ?_;cbv;refine⟨vX oM,xG (i/32) (by (try dsimp only [zY] at *);rw[hq]) hil ?_⟩;cbv;refine⟨vX oM,v8 (by (try dsimp only [zY] at *);rw[hr];omega),?_⟩;refine yP rfl (by exact⟨lR,zS hbitE,trivial⟩) cadd rfl ?_;cbv;refine cA ccmp ?_;cbv;refine zE (λh6=>?_) (λh6=>?_)
    ·(obtain⟨e1,e2⟩:=hd1 (hcl.1 h6);obtain⟨t,ht⟩:=hfree;have hqj:=yM (q.getD (i/32) 0);have hs32:i%32<32:=vZ _ oM;have h2s:2^(i%32)<2^(i%32+1):=p8 oM oM;have h2B:2^(i%32)<4294967296:=p8 (n:=32) oM hs32;have hor:(q.getD (i/32) 0).toNat ||| 2^(i%32)=(q.getD (i/32) 0).toNat+2^(i%32):=by rw[ht,Nat.or_comm,tI h2s,YK]);have horl:(q.getD (i/32) 0).toNat+2^(i%32)<B:=by rw[<-hor];exact UX (n:=32) hqj h2B
     (have hW:ior .u32 (((q.getD (i/32) 0).toNat:Nat):Int) (ishl .u32 1 (irem (((i+1:Nat):Int)-1) 32))=(((q.getD (i/32) 0).toNat+2^(i%32):Nat):Int):=by rw[hr,B8 hs32,QP hqj h2B,hor]);have hq40:q.length<2^40:=by omega
     (have hjq:i/32<q.length:=by omega);cbv
     refine cA csub ?_;cbv;refine zM 10 (by cbv) ?_;cbv;refine⟨vX oM,yZ (by (try dsimp only [zY] at *);rw[hq];omega) (by (try dsimp only [zY] at *);rw[hq];omega),j9 (i/32) (by (try dsimp only [zY] at *);rw[hq];omega) hjq ?_⟩;cbv;refine⟨vX oM,v8 (by (try dsimp only [zY] at *);rw[hr];omega),yZ (by (try dsimp only [zY] at *);rw[hq];omega) (by (try dsimp only [zY] at *);rw[hq];omega),j9 (i/32) (by (try dsimp only [zY] at *);rw[hq];omega) hjq ?_⟩;cbv;refine⟨zC om om,(i,q.set (i/32) (UInt32.ofNat ((q.getD (i/32) 0).toNat+2^(i%32)))),⟨by omega,by simpa using k2,?_⟩,by show i<i+1;omega,.le ?_ ?_ rfl⟩
     ·(show val (q.set (i/32) _)=val a/2^i/val b*2^i;have e3:=rD q hjq (UInt32.ofNat ((q.getD (i/32) 0).toNat+2^(i%32)));have e4:2^i=B^(i/32)*2^(i%32):=by show 2^i=(2^32)^(i/32)*2^(i%32);rw[<-Vh,<-bJ];congr 1;omega);rw[xY,qY horl,qO,<-e4,k3'] at e3;rw[e1,gI,Nat.one_mul,qX 2 (val a/2^(i+1)/val b),gF];omega
     {cbv;exact⟨lR,lR,lR,zS (by rw[e2]),zB om,trivial⟩}
     ·(cbv;have hset:(lm q).set (0+(nx .i64 (iquo (((i+1:Nat):Int)-1) 32)).toNat) [.int .u32 (ior .u32 (((q.getD (i/32) 0).toNat:Nat):Int) (ishl .u32 1 (irem (((i+1:Nat):Int)-1) 32)))]=lm (q.set (i/32) (UInt32.ofNat ((q.getD (i/32) 0).toNat+2^(i%32)))):=by rw[hq];exact fE q (by rw[mG,jQ]) hW horl);exact⟨zH hset,trivial⟩
    {obtain⟨e1,e2⟩:=hd2 (by have:=λe=>h6 (hcl.2 e);omega);cbv;refine⟨zC om om,(i,q),⟨by omega,k2,?_⟩,by show i<i+1;omega,.le ?_ ?_ rfl⟩;{show val q=val a/2^i/val b*2^i;rw[k3',e1,qX 2 (val a/2^(i+1)/val b),gF]};{cbv;exact⟨lR,lR,lR,zS (by rw[e2]),zB om,trivial⟩};{cbv;exact⟨zH rfl,trivial⟩}}
   ·(have hn:n=0:=by exact om);subst hn
    rw[Nat.pow_zero,Nat.div_one,t8] at k3;have cm:=i5 q oM;rw[k3] at cm;cbv;refine qF (.frz 43 rfl rfl ?_ ?_) rfl (by refine⟨zS ?_,trivial⟩;exact yW (by show ((lm q).drop 0).length<=a.length;rw[xM,zI];omega)) cm rfl ?_;{cbv;exact⟨z8 (by grind [zI]),z8 (by grind [zI]),trivial⟩};{exact trivial};cbv
    (refine rC ?_;cbv)
    exact⟨lR,zS (by grind),lR,trivial⟩
  ·subst h1;cbv;refine⟨z5 om om,kX om om,?_⟩;cbv;refine cA cbits ?_;cbv;refine⟨zC om om,?_⟩;refine zW (σ:=Nat×List UInt32) (λs=>⟨[(0,nat a),(1,nat b),(11,oV 43 1 a.length),(12,nat (zJ (val a/2^s.1%val b))),(13,iV ((s.1:Int)-1))],[(43,aV 1 (lm s.2))]⟩)
    (λs=>s.1<=bits/\s.2.length=a.length/\val s.2=(val a/2^s.1/val b)*2^s.1) (λs=>s.1) (bits,List.replicate a.length 0) ⟨yD _,by simp,by rw[hdiv0];simp[gW]⟩ (.trans (.frz 44 rfl rfl (by cbv;repeat' first|exact trivial|exact z8 (by simp)|apply And.intro) (by cbv;repeat' first|exact trivial|apply And.intro)) (.le ?_ ?_ rfl)) ?_
   {cbv;exact⟨lR,lR,zZ rfl (by (try dsimp only [zY] at *);grind [zI]),zS (by rw[hdiv0,Nat.zero_mod,y4];rfl),lR,trivial⟩};{cbv;exact⟨zH (ZW _ _ (by (try dsimp only [zY] at *);simp only[zI])),trivial⟩};intro s hs;obtain⟨k1,k2,k3⟩:=hs;generalize s.1=n at *;generalize s.2=q at *;cbv;refine zE (λh5=>?_) (λh5=>?_)
   ·(obtain⟨i,rfl⟩:∃ i,n=i+1:=⟨n-1,by exact om⟩;have hi1:((i+1:Nat):Int)-1=(i:Int):=by omega);have hq:nx .i64 (iquo (((i+1:Nat):Int)-1) 32)=((i/32:Nat):Int):=by grind [iquo,ZV]
    (have hr:irem (((i+1:Nat):Int)-1) 32=((i%32:Nat):Int):=by rw[hi1];exact uJ (b:=32));have hil:i/32<a.length:=by omega
    have hbit:=Va a i;have hbit2:val a/2^i%2<2:=vZ _ oM;have hd:=yM (a.getD (i/32) 0);have hrl1:=hrl (i+1);have cs:=Mr (zJ (val a/2^(i+1)%val b)) 1 oM oM;rw[zR] at cs;have hl2:(zJ (val a/2^(i+1)%val b*2^1)).length<=b.length+1:=by refine yF ?_;rw[show B^(b.length+1)=B^b.length*B from uC _ _];refine UW (fJ (vZ _ hbp) (x5 b)) (by decide)
    (have cadd:=RC (zJ (val a/2^(i+1)%val b*2^1)) [UInt32.ofNat (val a/2^i%2)] oM (by simp);have hv1:val [UInt32.ofNat (val a/2^i%2)]=val a/2^i%2:=by simp only[val,xY,B];omega);rw[zR,hv1] at cadd
    (have hdb:=WT (A:=val a) (i:=i) hbp;have e2r:val a/2^(i+1)%val b*2^1+val a/2^i%2=2*(val a/2^(i+1)%val b)+val a/2^i%2:=by omega);rw[e2r] at cadd
    have hl3:(zJ (2*(val a/2^(i+1)%val b)+val a/2^i%2)).length<=b.length+1:=by refine yF ?_;have h7:=fJ (vZ (val a/2^(i+1)) hbp) (x5 b);have h8:B^b.length*4<=B^b.length*B:=vQ _ (by decide);rw[show B^(b.length+1)=B^b.length*B from uC _ _];generalize B^b.length=P at *;omega
    (have ccmp:=Ru (zJ (2*(val a/2^(i+1)%val b)+val a/2^i%2)) b oM oM;have csub:=C3 (zJ (2*(val a/2^(i+1)%val b)+val a/2^i%2)) b oM oM;rw[zR] at ccmp csub;obtain⟨hd1,hd2⟩:=hdb;have hfree:=Z2 (q:=q) (i:=i) (m:=val a/2^(i+1)/val b) k3;have hpow:(2:Nat)^(i+1)=2*2^i:=by rw[uC,qX]);have k3':val q=val a/2^(i+1)/val b*(2*2^i):=by rw[<-hpow];exact k3
    (have hcl:0<=qQ (2*(val a/2^(i+1)%val b)+val a/2^i%2) (val b)↔val b<=2*(val a/2^(i+1)%val b)+val a/2^i%2:=by unfold qQ;split;{omega};{split <;> omega});have hbitE:([[.int .u32 (iand .u32 (ishr .u32 (((a.getD (i/32) 0).toNat:Nat):Int) (irem (((i+1:Nat):Int)-1) 32)) 1)]]:List (List D))=lm [UInt32.ofNat (val a/2^i%2)]:=by rw[hr,Zj oM,Ad (xF (eW _ _) hd),hbit];simp only[lm,jB,Vn,xY];rw[qY (show val a/2^i%2<B by simp only[B];omega)]
    generalize qQ (2*(val a/2^(i+1)%val b)+val a/2^i%2) (val b)=C at *;generalize hR:2*(val a/2^(i+1)%val b)+val a/2^i%2=R at *;generalize zJ (val a/2^(i+1)%val b*2^1)=L2 at *;cbv;refine yP rfl (by exact⟨lR,zB rfl,trivial⟩) cs rfl ?_;cbv;refine⟨vX oM,xG (i/32) (by (try dsimp only [zY] at *);rw[hq]) hil ?_⟩;cbv;refine⟨vX oM,v8 (by (try dsimp only [zY] at *);rw[hr];omega),?_⟩;refine yP rfl (by exact⟨lR,zS hbitE,trivial⟩) cadd rfl ?_;cbv;refine cA ccmp ?_;cbv;refine zE (λh6=>?_) (λh6=>?_)
    ·(obtain⟨e1,e2⟩:=hd1 (hcl.1 h6);obtain⟨t,ht⟩:=hfree;have hqj:=yM (q.getD (i/32) 0);have hs32:i%32<32:=vZ _ oM;have h2s:2^(i%32)<2^(i%32+1):=p8 oM oM;have h2B:2^(i%32)<4294967296:=p8 (n:=32) oM hs32;have hor:(q.getD (i/32) 0).toNat ||| 2^(i%32)=(q.getD (i/32) 0).toNat+2^(i%32):=by rw[ht,Nat.or_comm,tI h2s,YK]);have horl:(q.getD (i/32) 0).toNat+2^(i%32)<B:=by rw[<-hor];exact UX (n:=32) hqj h2B
     (have hW:ior .u32 (((q.getD (i/32) 0).toNat:Nat):Int) (ishl .u32 1 (irem (((i+1:Nat):Int)-1) 32))=(((q.getD (i/32) 0).toNat+2^(i%32):Nat):Int):=by rw[hr,B8 hs32,QP hqj h2B,hor]);have hq40:q.length<2^40:=by omega
     (have hjq:i/32<q.length:=by omega);cbv
     refine cA csub ?_;cbv;refine zM 10 (by cbv) ?_;cbv;refine⟨vX oM,yZ (by (try dsimp only [zY] at *);rw[hq];omega) (by (try dsimp only [zY] at *);rw[hq];omega),j9 (i/32) (by (try dsimp only [zY] at *);rw[hq];omega) hjq ?_⟩;cbv;refine⟨vX oM,v8 (by (try dsimp only [zY] at *);rw[hr];omega),yZ (by (try dsimp only [zY] at *);rw[hq];omega) (by (try dsimp only [zY] at *);rw[hq];omega),j9 (i/32) (by (try dsimp only [zY] at *);rw[hq];omega) hjq ?_⟩;cbv;refine⟨zC om om,(i,q.set (i/32) (UInt32.ofNat ((q.getD (i/32) 0).toNat+2^(i%32)))),⟨by omega,by simpa using k2,?_⟩,by show i<i+1;omega,.le ?_ ?_ rfl⟩
     ·(show val (q.set (i/32) _)=val a/2^i/val b*2^i;have e3:=rD q hjq (UInt32.ofNat ((q.getD (i/32) 0).toNat+2^(i%32)));have e4:2^i=B^(i/32)*2^(i%32):=by show 2^i=(2^32)^(i/32)*2^(i%32);rw[<-Vh,<-bJ];congr 1;omega);rw[xY,qY horl,qO,<-e4,k3'] at e3;rw[e1,gI,Nat.one_mul,qX 2 (val a/2^(i+1)/val b),gF];omega
     {cbv;exact⟨lR,lR,lR,zS (by rw[e2]),zB om,trivial⟩}
     ·(cbv;have hset:(lm q).set (0+(nx .i64 (iquo (((i+1:Nat):Int)-1) 32)).toNat) [.int .u32 (ior .u32 (((q.getD (i/32) 0).toNat:Nat):Int) (ishl .u32 1 (irem (((i+1:Nat):Int)-1) 32)))]=lm (q.set (i/32) (UInt32.ofNat ((q.getD (i/32) 0).toNat+2^(i%32)))):=by rw[hq];exact fE q (by rw[mG,jQ]) hW horl);exact⟨zH hset,trivial⟩
    {obtain⟨e1,e2⟩:=hd2 (by have:=λe=>h6 (hcl.2 e);omega);cbv;refine⟨zC om om,(i,q),⟨by omega,k2,?_⟩,by show i<i+1;omega,.le ?_ ?_ rfl⟩;{show val q=val a/2^i/val b*2^i;rw[k3',e1,qX 2 (val a/2^(i+1)/val b),gF]};{cbv;exact⟨lR,lR,lR,zS (by rw[e2]),zB om,trivial⟩};{cbv;exact⟨zH rfl,trivial⟩}}
   ·(have hn:n=0:=by exact om);subst hn
    rw[Nat.pow_zero,Nat.div_one,t8] at k3;have cm:=i5 q oM;rw[k3] at cm;cbv;refine qF (.frz 43 rfl rfl ?_ ?_) rfl (by refine⟨zS ?_,trivial⟩;exact yW (by show ((lm q).drop 0).length<=a.length;rw[xM,zI];omega)) cm rfl ?_;{cbv;exact⟨z8 (by grind [zI]),z8 (by grind [zI]),trivial⟩};{exact trivial};cbv
    (refine rC ?_;cbv)
    exact⟨lR,zS (by grind),lR,trivial⟩
def ON (a b:List UInt32)(ha:a.length<2^34)(hb:b.length<2^34):zD 132 [nat a,nat b] (nat (zJ (Nat.gcd (val a) (val b)))):=by
 refine sF Tryz.f132 ?_;have ha':=xF (z7 a) ha;have hb':=xF (z7 b) hb;generalize hg:Nat.gcd (val a) (val b)=g;cbv;refine cA (i5 a oM) ?_;cbv;refine cA (i5 b oM) ?_;cbv;refine zW (σ:=Nat×Nat) (λz=>⟨[(0,nat (zJ z.1)),(1,nat (zJ z.2))],[]⟩) (λz=>(zJ z.1).length<2^34/\(zJ z.2).length<2^34/\Nat.gcd z.1 z.2=g) (λz=>z.2) (val a,val b) ⟨ha',hb',hg⟩ (.le ?_ trivial rfl) ?_;{cbv;exact okA};intro z hz;obtain⟨h1,h2,h3⟩:=hz;generalize z.1=x at *;generalize z.2=y at *;cbv;refine zE (λh4=>?_) (λh4=>?_)
 ·(have hy:y≠0:=λe=>by subst e;(try dsimp only [zY] at *);grind [lm,y4]);have hm:=vZ x (pF hy)
  have c1:=Ms (zJ x) (zJ y) h1 h2 (by grind [zR]);rw[zR,zR] at c1;cbv;refine cA c1 ?_;cbv;refine⟨(y,x%y),⟨h2,xF (kH (ZC hm)) h2,by grind [Nat.gcd_comm,Nat.gcd_rec]⟩,hm,.le ?_ trivial rfl⟩;cbv;exact okA
 ·have hy:y=0:=wA.1 (j3 (by (try dsimp only [zY] at *);grind [zI]));subst hy;cbv
  (refine rC ?_;cbv)
  exact zS (by grind)
def Dy (neg:Bool)(m:List UInt32)(hm:m.length<2^40):zD 129 [bV neg,nat m] (zv (x8 (sgn neg (val m)))):=by
 refine sF Tryz.f129 ?_;rw[Jp];cbv;refine cA (i5 m oM) ?_;cbv;refine yA (λh=>?_) (λh=>?_)
 ·subst h;cbv
  (refine rC ?_;cbv)
  refine⟨z4 ?_,lR,trivial⟩;rw[rS];simp only[decide_eq_true_eq,zI,yN];rw[<-@wA (val m),<-Kp]
  (try dsimp only [zY] at *)
  omega
 {subst h;cbv;exact rA}
def s88 (x:Int)(h1:-9223372036854775808<=x)(h2:x<9223372036854775808):zD 63 [iV x] (zv (x8 x)):=by
 refine sF Tryz.f63 ?_;have hBB:B*B=18446744073709551616:=by decide
 have hl:(zJ x.natAbs).length<=2:=H8.2 oM;have c1:=Dy true (zJ x.natAbs) oM;have c2:=Dy false (zJ x.natAbs) oM;have c3:=Mt x.natAbs oM;rw[zR] at c1 c2;have e1:x<0->sgn true x.natAbs=x:=λh=>by show -(x.natAbs:Int)=x;omega
 have e2:¬x<0->sgn false x.natAbs=x:=λh=>by show (x.natAbs:Int)=x;omega
 have n1:x<0->nx .u64 (0-nx .u64 x)=((x.natAbs:Nat):Int):=λh=>by grind [uH]
 have n2:¬x<0->nx .u64 x=((x.natAbs:Nat):Int):=λh=>by grind [uH]
 generalize x.natAbs=n at *;cbv;refine zE (λh=>?_) (λh=>?_);{rw[e1 h] at c1;generalize x8 x=W at *;have n3:=n1 h;cbv;refine yP rfl (by exact⟨zB n3,trivial⟩) c3 rfl ?_;cbv;refine cA c1 ?_;cbv;exact rA};{rw[e2 h] at c2;generalize x8 x=W at *;have n3:=n2 h;cbv;refine yP rfl (by exact⟨zB n3,trivial⟩) c3 rfl ?_;cbv;refine cA c2 ?_;cbv;exact rA}
def s90 (x:Z)(hx:x.mag.length<2^40):zD 90 [zv x] (iV (jT x.v)):=by
 refine sF Tryz.f90 ?_;have c1:=Dy x.neg x.mag hx;have e:sgn x.neg (val x.mag)=x.v:=rfl;rw[e] at c1;have hneg:(x8 x.v).neg=decide (x.v<0):=rfl;have hmag:(x8 x.v).mag.length=0↔x.v=0:=by show (zJ x.v.natAbs).length=0↔_;rw[Kp,wA];omega
 have e0:x.v=0->jT x.v=0:=λh=>by rw[h];rfl
 have e1:x.v<0->jT x.v=-1:=λh=>by unfold jT;omega
 have e2:¬x.v<0->x.v≠0->jT x.v=1:=λh h'=>by unfold jT;omega
 generalize jT x.v=s at *;generalize x8 x.v=W at *;generalize x.v=v at *;obtain⟨a,m⟩:=x;obtain⟨w1,w2⟩:=W;simp only at hneg hmag;cbv;refine cA c1 ?_;cbv;refine zE (λh=>?_) (λh=>?_)
 ·cbv
  (refine rC ?_;cbv)
  exact zB (e0 (hmag.1 om)).symm
 ·have hv:v≠0:=λe=>h (by have:=hmag.2 e;(try dsimp only [zY] at *);grind [zI]);cbv;refine zP (λh2=>?_) (λh2=>?_)
  ·cbv
   (refine rC ?_;cbv)
   exact zB (e1 (of_decide_eq_true (hneg.symm.trans h2))).symm
  ·cbv
   (refine rC ?_;cbv)
   exact zB (e2 (of_decide_eq_false (hneg.symm.trans h2)) hv).symm
def OO (x y:Z)(hx:x.mag.length<2^38)(hy:y.mag.length<2^38):zD 61 [zv x,zv y] (zv (x8 (x.v+y.v))):=by
 refine sF Tryz.f61 ?_;obtain⟨n1,m1⟩:=x;obtain⟨n2,m2⟩:=y;have hv:Z.v ⟨n1,m1⟩+Z.v ⟨n2,m2⟩=sgn n1 (val m1)+sgn n2 (val m2):=rfl;have hl:=Fv m1 m2;have hl1:=Y0 m1 m2;have hl2:=Y0 m2 m1;have hx':m1.length<2^38:=hx;have hy':m2.length<2^38:=hy;rw[hv];have c1:n1=n2->zD 129 [bV n1,nat (zJ (val m1+val m2))] (zv (x8 (sgn n1 (val m1)+sgn n2 (val m2)))):=by intro h;have:=Dy n1 (zJ (val m1+val m2)) oM;rw[zR] at this;grind [sgn]
 have c2:n1≠n2->val m2<=val m1->zD 129 [bV n1,nat (zJ (val m1-val m2))] (zv (x8 (sgn n1 (val m1)+sgn n2 (val m2)))):=by
  (intro h hge;have:=Dy n1 (zJ (val m1-val m2)) oM;rw[zR] at this;have e:sgn n1 (val m1-val m2)=sgn n1 (val m1)+sgn n2 (val m2):=by grind [sgn]);grind
 have c3:n1≠n2->¬val m2<=val m1->zD 129 [bV n2,nat (zJ (val m2-val m1))] (zv (x8 (sgn n1 (val m1)+sgn n2 (val m2)))):=by
  (intro h hge;have:=Dy n2 (zJ (val m2-val m1)) oM;rw[zR] at this;have e:sgn n2 (val m2-val m1)=sgn n1 (val m1)+sgn n2 (val m2):=by grind [sgn]);simp_all
 have cs1:=C3 m1 m2 oM oM;have cs2:=C3 m2 m1 oM oM;have hE1:val m2<=val m1->(if val m2<=val m1 then (0:Int) else 2)=0:=λh=>if_pos h;have hE2:¬val m2<=val m1->(if val m2<=val m1 then (0:Int) else 2)=2:=λh=>if_neg h;generalize (if val m2<=val m1 then (0:Int) else 2)=E at *;generalize (if val m1<=val m2 then (0:Int) else 2)=E' at *;generalize sgn n1 (val m1)+sgn n2 (val m2)=T at *;cbv;refine zE (λh=>?_) (λh=>?_);{have h':=c1 h;generalize x8 T=W at *;cbv;refine zM 8 (by cbv) ?_;cbv;refine dA (RC m1 m2 oM oM) ?_;cbv;refine dA h' ?_;cbv;exact rA}
 ·have h2:=c2 h;have h3:=c3 h;generalize x8 T=W at *;cbv;refine cA cs1 ?_;cbv;refine zE (λh4=>?_) (λh4=>?_)
  ·(have hge:val m2<=val m1:=by omega);cbv
   refine cA (h2 hge) ?_;cbv;exact rA
  {have hlt:¬val m2<=val m1:=λe=>h4 (hE1 e);cbv;refine cA cs2 ?_;cbv;refine cA (h3 hlt) ?_;cbv;exact rA}
def jU (d:List UInt32):List UInt32:=zJ (if val d=0 then 1 else val d)
def bX (x:R):val (jU x.den)=x.d:=by unfold jU R.d;rw[zR]
def tJ (d:List UInt32):(jU d).length<=d.length+1:=by unfold jU;split;{rw[Z1];simp};grind [z7]
def HP (d:List UInt32)(hd:d.length<2^40):zD 60 [nat d] (nat (jU d)):=by
 refine sF Tryz.f60 ?_;have c1:=i5 d oM;have e1:(zJ (val d)).length=0->jU d=[1]:=λh=>by unfold jU;rw[if_pos (wA.1 (j3 h)),Z1]
 have e2:(zJ (val d)).length≠0->jU d=zJ (val d):=λh=>by unfold jU;rw[if_neg (λe=>h (by grind [y4]))]
 generalize jU d=u at *;generalize zJ (val d)=p at *;cbv;refine cA c1 ?_;cbv;refine zE (λh=>?_) (λh=>?_)
 ·have:=e1 om;subst this;cbv
  (refine rC ?_;cbv)
  exact zS rfl
 {have:=e2 (by (try dsimp only [zY] at *);grind [zI]);subst this;cbv;exact rA}
def C6 (neg:Bool)(num den:List UInt32)(hn:num.length<2^33)(hd:den.length<2^33)(h0:val den≠0):zD 62 [bV neg,nat num,nat den] (rv (zG (mkRat (sgn neg (val num)) (val den)))):=by
 refine sF Tryz.f62 ?_;rw[ZU h0];have hg0:Nat.gcd (val num) (val den)≠0:=λe=>h0 (Nat.eq_zero_of_gcd_eq_zero_right e);have hgl:(zJ (Nat.gcd (val num) (val den))).length<2^33:=xF (vR (kH (Nat.le_of_dvd (pF h0) (Ko _ _))) (z7 den)) hd;have cg:=ON num den oM oM;have cn:=Ms num (zJ (Nat.gcd (val num) (val den))) oM oM (by grind [zR]);have cd:=Ms den (zJ (Nat.gcd (val num) (val den))) oM oM (by grind [zR]);rw[zR] at cn cd;have hnz:val num/Nat.gcd (val num) (val den)=0↔val num=0:=by rw[Nat.div_eq_zero_iff_lt (pF hg0)];grind [Nat.gcd_le_left]
 have hdl:(zJ (val den/Nat.gcd (val num) (val den))).length<2^33:=xF (vR (kH (eW _ _)) (z7 den)) hd;generalize val den/Nat.gcd (val num) (val den)=D' at *;generalize val num/Nat.gcd (val num) (val den)=N' at *;generalize Nat.gcd (val num) (val den)=g at *;generalize val num=N at *;show wp _ _ (dT _ (.agg [bV (neg&&decide (N≠0)),nat (zJ N'),nat (if D'=1 then [] else zJ D')]) [] []);have hN0:decide (N≠0)=decide (0<(zJ N').length):=by rw[decide_eq_decide,List.length_pos_iff,ne_eq,ne_eq,wA,hnz]
 rw[hN0];have hone:=@fZ D';generalize hr2:(if D'=1 then [] else zJ D')=r2;have hr2a:zJ D'=[1]->r2=[]:=λh=>by grind
 have hr2b:zJ D'≠[1]->r2=zJ D':=λh=>by grind
 generalize zJ D'=dl at *;generalize zJ N'=nl at *;clear hr2 hone hN0 hnz;cbv;refine cA cg ?_;cbv;refine cA cn ?_;cbv;refine cA cd ?_;cbv;have one_of:∀ (h1:dl.length=1),((dl.getD 0 0).toNat:Int)=1↔dl=[1]:=by
  intro h1
  match dl,h1 with
  |[x],_ =>
   have e1:[x].getD 0 0=x:=rfl;rw[e1];constructor;{intro h2;have:x=1:=ZD.1 (by grind);rw[this]};{intro h2;rw[List.cons.inj h2 |>.1];rfl}
 refine zQ (λh=>?_) (λh=>?_)
 ·have h1:dl.length=1:=om;have ho:=one_of h1;cbv;refine xG 0 rfl oM ?_;cbv;refine zE (λh2=>?_) (λh2=>?_)
  ·have h3:=hr2a (ho.1 h2);cbv;refine yA (λh4=>?_) (λh4=>?_)
   ·subst h4;cbv
    (refine rC ?_;cbv)
    exact⟨z4 (by simp[zI]),lR,yX (by rw[h3];rfl),trivial⟩
   ·subst h4;cbv
    (refine rC ?_;cbv)
    exact⟨zK rfl,lR,yX (by rw[h3];rfl),trivial⟩
  ·have h3:=hr2b (λe=>h2 (ho.2 e));cbv;refine yA (λh4=>?_) (λh4=>?_)
   ·subst h4;cbv
    (refine rC ?_;cbv)
    exact⟨z4 (by simp[zI]),lR,zS (by rw[h3]),trivial⟩
   ·subst h4;cbv
    (refine rC ?_;cbv)
    exact⟨zK rfl,lR,zS (by rw[h3]),trivial⟩
 ·have h3:=hr2b (λe=>h (by rw[e];rfl));cbv;refine yA (λh4=>?_) (λh4=>?_)
  ·subst h4;cbv
   (refine rC ?_;cbv)
   exact⟨z4 (by simp[zI]),lR,zS (by rw[h3]),trivial⟩
  ·subst h4;cbv
   (refine rC ?_;cbv)
   exact⟨zK rfl,lR,zS (by rw[h3]),trivial⟩
def s47 (x:R)(hx:x.sz (2^32)):zD 113 [rv x] (rv (zG x.q)):=by refine sF Tryz.f113 ?_;have h1:=hx.n;have h2:=hx.d;have h3:=tJ x.den;have cu:=HP x.den oM;have cq:=C6 x.neg x.num (jU x.den) oM oM (by rw[bX];exact x.d_ne);rw[bX] at cq;have e:mkRat (sgn x.neg (val x.num)) x.d=x.q:=rfl;rw[e] at cq;generalize zG x.q=W at *;generalize jU x.den=u at *;obtain⟨neg,num,den⟩:=x;cbv;refine zM 8 (by cbv) ?_;cbv;refine dA cu ?_;cbv;refine dA cq ?_;cbv;exact rA
def s35 (x:R)(hx:x.num.length<2^40):zD 30 [rv x] (iV (z3 x.q)):=by refine sF Tryz.f30 ?_;have c2:=s90 ⟨x.neg,x.num⟩ hx;have e:Z.v ⟨x.neg,x.num⟩=x.n:=rfl;rw[e,<-CG] at c2;generalize z3 x.q=s at *;obtain⟨neg,num,den⟩:=x;cbv;refine cA c2 ?_;cbv;exact rA
def C4 (x:R)(hx:x.sz (2^32)):zD 101 [rv x] (rv (zG (-x.q))):=by refine sF Tryz.f101 ?_;have ca:=s47 ⟨!x.neg,x.num,x.den⟩ ⟨hx.n,hx.d⟩;rw[Bl] at ca;generalize zG (-x.q)=W at *;obtain⟨a,b,c⟩:=x;generalize hna:(!a)=na at *;cbv;refine yP rfl (by exact⟨⟨vM hna.symm,lR,lR,trivial⟩,trivial⟩) ca rfl ?_;cbv;exact rA
def s77 (x y:R)(hx:x.sz (2^31))(hy:y.sz (2^31)):zD 84 [rv x,rv y] (rv (zG (x.q*y.q))):=by
 refine sF Tryz.f84 ?_;have h1:=hx.n;have h2:=hx.d;have h3:=hy.n;have h4:=hy.d;have h7:=tJ x.den;have h8:=tJ y.den;have cux:=HP x.den oM;have cuy:=HP y.den oM;have cm:=s99 (jU x.den) (jU y.den) oM oM;have hml:=f9 (jU x.den) (jU y.den);rw[bX,bX] at cm hml;have cn:=s99 x.num y.num oM oM;have hnl:=f9 x.num y.num;have cq:=C6 (x.neg != y.neg) (zJ (val x.num*val y.num)) (zJ (x.d*y.d)) oM oM (by rw[zR];exact Vw x.d_ne y.d_ne);rw[zR,zR,<-Qd] at cq;have e:mkRat (sgn x.neg (val x.num)*sgn y.neg (val y.num)) (x.d*y.d)=x.q*y.q:=(PX x y).symm;rw[e] at cq;have hb:(x.neg != y.neg)=!decide (x.neg=y.neg):=by grind
 clear hml hnl e;generalize zG (x.q*y.q)=W at *;generalize zJ (x.d*y.d)=M at *;generalize zJ (val x.num*val y.num)=P at *;generalize jU x.den=ux at *;generalize jU y.den=uy at *;obtain⟨a,b,c⟩:=x;obtain⟨a',b',c'⟩:=y;simp only at *;generalize (a != a')=nb at *;cbv;refine zM 18 (by cbv) ?_;cbv;refine dA cn ?_;cbv;refine dA cux ?_;cbv;refine dA cuy ?_;cbv;refine dA cm ?_;cbv;refine wB (by exact⟨vM hb,lR,lR,trivial⟩) cq rfl ?_;cbv;exact rA
def s69 (x y:R)(hx:x.sz (2^32))(hy:y.sz (2^32)):zD 97 [rv x,rv y] (bV (decide (x=y))):=by
 refine sF Tryz.f97 ?_;have h1:=hx.n;have h2:=hx.d;have h3:=hy.n;have h4:=hy.d;have c1:=Lz x.num y.num oM oM;have c2:=Lz x.den y.den oM oM;obtain⟨a,b,c⟩:=x;obtain⟨a',b',c'⟩:=y;have hO:(decide ((⟨a,b,c⟩:R)=⟨a',b',c'⟩))=(decide (a=a')&&(decide (b=b')&&decide (c=c'))):=by grind
 rw[hO];simp only at c1 c2;generalize decide (b=b')=d1 at *;generalize decide (c=c')=d2 at *;clear hO h1 h2 h3 h4 hx hy;generalize hr:(decide (a=a')&&(d1&&d2))=r;cbv;refine zQ (λh=>?_) (λh=>?_)
 ·rw[show decide (a=a')=true from decide_eq_true h,yN] at hr;cbv;refine cA c1 ?_;cbv;refine yA (λh'=>?_) (λh'=>?_)
  ·subst h';cbv;refine cA c2 ?_;cbv
   (refine rC ?_;cbv)
   exact z4 (by grind)
  ·subst h';cbv
   (refine rC ?_;cbv)
   exact zK (by grind)
 ·rw[show decide (a=a')=false from decide_eq_false h,kK] at hr;cbv
  (refine rC ?_;cbv)
  exact zK hr.symm
def Dz (x:R)(hx:x.sz (2^32)):zD 157 [rv x] (bV x.ok):=by refine sF Tryz.f157 ?_;have cc:=s47 x hx;have cs:=s69 x (zG x.q) hx (zT (hx.fits (by decide)));have e:decide (x=zG x.q)=x.ok:=rfl;rw[e] at cs;generalize x.ok=o at *;generalize zG x.q=W at *;obtain⟨a,b,c⟩:=x;obtain⟨a',b',c'⟩:=W;cbv;refine zM 4 (by cbv) ?_;cbv;refine dA cc ?_;cbv;refine dA cs ?_;cbv;exact rA
def Bj (z:Int):zG (z:Rat)=⟨(x8 z).neg,(x8 z).mag,[]⟩:=by unfold zG x8;simp only[Rat.num_intCast,Rat.den_intCast,if_true];congr
def s32 (x:Int)(h1:-9223372036854775808<=x)(h2:x<9223372036854775808):zD 19 [iV x] (rv (zG (x:Rat))):=by refine sF Tryz.f19 ?_;have c1:=s88 x h1 h2;rw[Bj];generalize x8 x=y at *;obtain⟨a,b⟩:=y;cbv;refine cA c1 ?_;cbv;exact rA
def rB (a b:Int):Rat:=Rat.divInt a b
def AK (a b:Bool)(n m:Nat):mkRat (sgn (a != b) n) m=rB (sgn a n) (sgn b m):=by
 have h1:∀ (z:Int),Rat.divInt z (m:Int)=mkRat z m:=λz=>Vv z m;have h2:∀ (z:Int),Rat.divInt z (-(m:Int))=mkRat (-z) m:=λz=>by rw[Rat.divInt_neg',h1]
 unfold rB;cases b;{rw[show sgn false m=(m:Int) from rfl,h1];simp_all};{rw[show sgn true m=-(m:Int) from rfl,h2];cases a;{rfl};{show mkRat (n:Int) m=mkRat (- -(n:Int)) m;grind}}
def s98 (x y:Z)(hx:x.mag.length<2^33)(hy:y.mag.length<2^33)(h0:y.v≠0):zD 152 [zv x,zv y] (.tup [rv (zG (rB x.v y.v)),iV 0]):=by
 refine sF Tryz.f152 ?_;have cs:=s90 y oM;have hs:jT y.v≠0:=by grind [jT]
 have hv0:val y.mag≠0:=λe=>h0 (by unfold Z.v;rw[e,KJ]);have cq:=C6 (x.neg != y.neg) x.mag y.mag hx hy hv0;have e:mkRat (sgn (x.neg != y.neg) (val x.mag)) (val y.mag)=rB x.v y.v:=by exact AK _ _ _ _
 rw[e] at cq;have hb:(x.neg != y.neg)=!decide (x.neg=y.neg):=by grind
 generalize zG (rB x.v y.v)=W at *;generalize jT y.v=s at *;obtain⟨a,b⟩:=x;obtain⟨a',b'⟩:=y;simp only at *;generalize (a != a')=nb at *;cbv;refine cA cs ?_;cbv;refine zE (λh=>absurd h hs) (λh=>?_);cbv;refine yP rfl (by exact⟨vM hb,lR,lR,trivial⟩) cq rfl ?_;cbv;exact rA
def s43 (x y:Int)(h1:-9223372036854775808<=x)(h2:x<9223372036854775808)(h3:-9223372036854775808<=y)(h4:y<9223372036854775808)(h0:y≠0):zD 83 [iV x,iV y] (.tup [rv (zG (rB x y)),iV 0]):=by refine sF Tryz.f83 ?_;have c1:=s88 x h1 h2;have c2:=s88 y h3 h4;have hl1:=Wz x h1 h2;have hl2:=Wz y h3 h4;have c3:=s98 (x8 x) (x8 y) oM oM (by grind [dO]);rw[dO,dO] at c3;generalize zG (rB x y)=W at *;generalize x8 x=X at *;generalize x8 y=Y at *;cbv;refine cA c1 ?_;cbv;refine cA c2 ?_;cbv;refine cA c3 ?_;cbv;exact rA
def s44 (x y:R)(hx:x.sz (2^31))(hy:y.sz (2^31)):zD 18 [rv x,rv y] (rv (zG (x.q+y.q))):=by
 refine sF Tryz.f18 ?_;have h1:=hx.n;have h2:=hx.d;have h3:=hy.n;have h4:=hy.d;have h7:=tJ x.den;have h8:=tJ y.den;have cux:=HP x.den oM;have cuy:=HP y.den oM;have cx:=s99 x.num (jU y.den) oM oM;have cy:=s99 y.num (jU x.den) oM oM;have hxl:=f9 x.num (jU y.den);have hyl:=f9 y.num (jU x.den);rw[bX] at cx cy hxl hyl;have ca:=OO ⟨x.neg,zJ (val x.num*y.d)⟩ ⟨y.neg,zJ (val y.num*x.d)⟩ (show (zJ (val x.num*y.d)).length<_ by omega) (show (zJ (val y.num*x.d)).length<_ by omega);have e1:Z.v ⟨x.neg,zJ (val x.num*y.d)⟩=x.n*(y.d:Int):=by unfold Z.v R.n;rw[zR,Yq]
 have e2:Z.v ⟨y.neg,zJ (val y.num*x.d)⟩=y.n*(x.d:Int):=by unfold Z.v R.n;rw[zR,Yq]
 rw[e1,e2] at ca;have cm:=s99 (jU x.den) (jU y.den) oM oM;have hml:=f9 (jU x.den) (jU y.den);rw[bX,bX] at cm hml;have hsl:(x8 (x.n*(y.d:Int)+y.n*(x.d:Int))).mag.length<2^33:=by have a1:=x5 (zJ (val x.num*y.d));have a2:=x5 (zJ (val y.num*x.d));rw[zR] at a1 a2;obtain⟨k,hk⟩:∃ k,k=4294967297:=⟨_,rfl⟩;have b1:=uR a1 (dH w8 (show (zJ (val x.num*y.d)).length<=k by omega));have b2:=uR a2 (dH w8 (show (zJ (val y.num*x.d)).length<=k by omega));have e3:=Int.natAbs_add_le (x.n*(y.d:Int)) (y.n*(x.d:Int));rw[eV,eV,R.n,R.n,qH,qH,Yk,Yk] at e3;have e4:B^k*2<=B^k*B:=vQ _ (by decide);have e5:(zJ (x.n*(y.d:Int)+y.n*(x.d:Int)).natAbs).length<=k+1:=yF (by rw[uC B k];unfold R.n;generalize B^k=P at *;omega);show (zJ (x.n*(y.d:Int)+y.n*(x.d:Int)).natAbs).length<2^33;omega
 have cq:=C6 (x8 (x.n*(y.d:Int)+y.n*(x.d:Int))).neg (x8 (x.n*(y.d:Int)+y.n*(x.d:Int))).mag (zJ (x.d*y.d)) hsl oM (by rw[zR];exact Vw x.d_ne y.d_ne);have e6:sgn (x8 (x.n*(y.d:Int)+y.n*(x.d:Int))).neg (val (x8 (x.n*(y.d:Int)+y.n*(x.d:Int))).mag)=x.n*(y.d:Int)+y.n*(x.d:Int):=dO _;rw[e6,zR,<-Bo] at cq;clear e6 hsl hml e1 e2 hxl hyl;generalize zG (x.q+y.q)=W at *;generalize zJ (x.d*y.d)=M at *;generalize x8 (x.n*(y.d:Int)+y.n*(x.d:Int))=S at *;generalize zJ (val x.num*y.d)=W1 at *;generalize zJ (val y.num*x.d)=W2 at *;generalize jU x.den=ux at *;generalize jU y.den=uy at *;obtain⟨a,b,c⟩:=x;obtain⟨a',b',c'⟩:=y;obtain⟨s1,s2⟩:=S;cbv;refine kJ 10 (by cbv) (by cbv) ?_;cbv;refine dA cuy ?_;cbv;refine dA cx ?_;cbv;refine kJ 10 (by cbv) (by cbv) ?_;cbv;refine dA cux ?_;cbv;refine dA cy ?_;cbv;refine cA ca ?_;cbv;refine zM 12 (by cbv) ?_;cbv;refine dA cux ?_;cbv;refine dA cuy ?_;cbv;refine dA cm ?_;cbv;refine dA cq ?_;cbv;exact rA
def s93 (x y:R)(hx:x.sz (2^31))(hy:y.sz (2^31)):zD 85 [rv x,rv y] (rv (zG (x.q-y.q))):=by refine sF Tryz.f85 ?_;have cn:=C4 y (hy.mono oM);have ca:=s44 x (zG (-y.q)) hx (zT (qE (hy.fits (by decide))));rw[zV,<-Rat.sub_eq_add_neg] at ca;generalize zG (x.q-y.q)=W at *;generalize zG (-y.q)=V at *;obtain⟨a,b,c⟩:=x;obtain⟨a',b',c'⟩:=y;cbv;refine zM 4 (by cbv) ?_;cbv;refine dA cn ?_;cbv;refine dA ca ?_;cbv;exact rA
def Ps (a b:Rat):z3 (a-b)=wK a b:=by
 unfold z3 wK;have h1:a-b<0↔a<b:=by grind
 have h2:0<a-b↔b<a:=by grind
 simp only[h1,h2]
def s42 (x y:R)(hx:x.sz (2^31))(hy:y.sz (2^31)):zD 48 [rv x,rv y] (iV (wK x.q y.q)):=by refine sF Tryz.f48 ?_;have ca:=s93 x y hx hy;have hf:=(vC (hx.fits (by decide)) (hy.fits (by decide))).lnum;have cs:=s35 (zG (x.q-y.q)) (xF hf oM);rw[zV,Ps] at cs;clear hf;generalize wK x.q y.q=C at *;generalize zG (x.q-y.q)=W at *;cbv;refine cA ca ?_;cbv;refine cA cs ?_;cbv;exact rA
def s70 (x y:R)(hx:x.sz (2^31))(hy:y.sz (2^31)):zD 153 [rv x,rv y] (rv (zG (iE x.q y.q))):=by
 refine sF Tryz.f153 ?_;have cc:=s42 x y hx hy;have cx:=s47 x (hx.mono oM);have cy:=s47 y (hy.mono oM);have k1:0<=wK x.q y.q->iE x.q y.q=x.q:=by intro h;unfold wK at h;unfold iE;split <;> simp_all
 have k2:¬0<=wK x.q y.q->iE x.q y.q=y.q:=by intro h;unfold wK at h;unfold iE;split;{rfl};{rename_i h';rw[if_neg h'] at h;split at h <;> simp at h}
 generalize wK x.q y.q=C at *;generalize iE x.q y.q=m at *;generalize x.q=qx at *;generalize y.q=qy at *;have k1':0<=C->zG qx=zG m:=λh=>by rw[k1 h]
 have k2':¬0<=C->zG qy=zG m:=λh=>by rw[k2 h]
 generalize zG m=W at *;generalize zG qx=X at *;generalize zG qy=Y at *;cbv;refine cA cc ?_;cbv;refine zE (λh=>?_) (λh=>?_);{have:=k1' h;subst this;cbv;refine cA cx ?_;cbv;exact rA};{have:=k2' h;subst this;cbv;refine cA cy ?_;cbv;exact rA}
end Go.Proofs.YtaeaffgjdcigoaaGreat
