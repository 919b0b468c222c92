/- A part of the proof: KpK, KpJ, KcU. -/
import Derived.Test.YtaeaffgjdcigoaaGreatD36
import Derived.Test.YtaeaffgjdcigoaaGreatD27
import Derived.Test.YtaeaffgjdcigoaaGreatD31
set_option linter.all false
namespace Go.Proofs.YtaeaffgjdcigoaaGreat
open Go
set_option maxRecDepth 100000
set_option maxHeartbeats 4000000
def P9 {s:Scp}(hv:s.q.valid=true){i:Nat}{p:F}(hp:s.q.g.us[i]?=some (fA p)){lo hi:Nat}{l u:Rat}(hl:s.lem lo i false=some l)(hu:s.lem hi i true=some u):SK s (upM i lo hi l u)=0\/SK s (upM i lo hi l u)=u:=by
 have f12:s.fm ⟨12,i,0,hi⟩=some ((F.num u).sub p):=by rw[dP hv (by decide) (by decide) hp,hu];rfl
 unfold upM;split
 ·(rename_i h;have f10:s.fm ⟨10,i,0,hi⟩=some ((F.var (s.q.g.n+i)).scale (-1)):=by rw[dP hv (by decide) (by decide) hp,hu];show (if WM s ⟨10,i,0,hi⟩ u true=true then _ else none)=_;rw[if_pos (by grind [WM])]);refine .inl ?_;simp only[SK,fJ f10];show 1*(0+(0:Rat) * -1)+0=0;grind
 ·rename_i h1;split
  ·(rename_i h;have f8:s.fm ⟨8,i,lo,0⟩=some (p.sub (F.var (s.q.g.n+i))):=by rw[dP hv (by decide) (by decide) hp,hl];show (if onB s ⟨8,i,lo,0⟩ l true=true then _ else none)=_;rw[if_pos (by grind [onB])]);refine .inr ?_;simp only[SK,fJ f8,fJ f12];show 1*(p.c+(0:Rat) * -1)+(1*(u+p.c * -1)+0)=u;grind
  ·rename_i h2;have hu0:0<u:=pU.1 oM;have hl0:l<0:=V7.1 oM;have f13:s.fm ⟨13,i,lo,hi⟩=some (((p.sub (F.num l)).scale u).sub ((F.var (s.q.g.n+i)).scale (u-l))):=by rw[dP hv (by decide) (by decide) hp,hl,hu];show (if _/\_/\_/\_ then _ else none)=_;grind
   (have hne:u-l≠0:=by grind);have hone:1/(u-l)*(u-l)=1:=by grind
   generalize 1/(u-l)=d at *;refine .inr ?_;simp only[SK,fJ f12,fJ f13];show d*u*(u+p.c * -1)+(d*((0+(p.c+l * -1)*u)+(0+(0:Rat)*(u-l)) * -1)+0)=u;grind
def bz (n v:Nat):Nat:=if v<n then 3 else KB (v-n)
def Pc (n v:Nat):pgv n (v+1)=pgv n v+(bz n v+1):=by grind [bz,pgv]
theorem Ax {s:Scp}{x:FQry}(hq:s.q=x.q)(hv:s.q.valid=true)(hx:x.small){v:Nat}(h:v<x.g.n+x.g.us.length):Fits (bz x.g.n v) (SK s (s.atLeastM v)):=by
 have hn:s.q.g.n=(x.g.n:Int):=by rw[hq];rfl
 unfold Scp.atLeastM bz;by_cases hlt:v<x.g.n
 ·(rw[if_pos hlt,if_pos oM];obtain⟨y,hy⟩:∃ y,s.q.r.lo[v]?=some y:=zQ (by rw[hq];show v<(x.r.bs.map _).length;rw[wH,hx.r.bs];exact hlt);have hf:Fits 3 y.q:=by have hm:=z8 hy;rw[hq] at hm;obtain⟨b,hb,rfl⟩:=xB.1 hm;rw[z9];exact (hx.r.bf b hb).1);simp only[SK,fJ (Sh hv hy)];show Fits 3 (1*(0+y.q * -1)+0);rw[show 1*(0+y.q * -1)+0=-y.q by grind];exact uW hf
 ·(rw[if_neg hlt,if_neg oM];have e:(v:Int)-s.q.g.n=((v-x.g.n:Nat):Int):=by omega);have hp:s.q.g.us[v-x.g.n]?=some (fA x.g.us[v-x.g.n]):=by rw[hq];show (x.g.us.map fA)[v-x.g.n]?=_;grind
  (have f5:s.fm ⟨5,((v-x.g.n:Nat):Int),0,0⟩=some (F.var (s.q.g.n+(v-x.g.n:Nat))):=by rw[dP hv (by decide) (by decide) hp];rfl);rw[e];simp only[SK,fJ f5];show Fits _ (1*(0:Rat)+0);rw[show 1*(0:Rat)+0=0 by grind];exact v9 (WC _)
theorem Pm {s:Scp}{x:FQry}(hq:s.q=x.q)(hv:s.q.valid=true)(hx:x.small)(hL:LB KB s.lems){v:Nat}(h:v<x.g.n+x.g.us.length){more:List (Row×Rat)}(hm:s.atMostM v=some more):Fits (bz x.g.n v) (SK s more):=by
 have hn:s.q.g.n=(x.g.n:Int):=by rw[hq];rfl
 unfold Scp.atMostM at hm;unfold bz;by_cases hlt:v<x.g.n
 ·(rw[if_pos oM] at hm;rw[if_pos hlt];cases hm;obtain⟨y,hy⟩:∃ y,s.q.r.hi[v]?=some y:=zQ (by rw[hq];show v<(x.r.bs.map _).length;rw[wH,hx.r.bs];exact hlt);have hf:Fits 3 y.q:=by have hm:=z8 hy;rw[hq] at hm;obtain⟨b,hb,rfl⟩:=xB.1 hm;rw[z9];exact (hx.r.bf b hb).2);simp only[SK,fJ (Sj hv hy)];show Fits 3 (1*(y.q+(0:Rat) * -1)+0);grind
 ·(rw[if_neg oM] at hm;rw[if_neg hlt];have e:(v:Int)-s.q.g.n=((v-x.g.n:Nat):Int):=by omega);have hp:s.q.g.us[v-x.g.n]?=some (fA x.g.us[v-x.g.n]):=by rw[hq];show (x.g.us.map fA)[v-x.g.n]?=_;grind
  rw[e] at hm;split at hm;{cases hm}
  ·(rename_i hb;cases hm;obtain⟨b1,b2⟩:=Gj s ((v-x.g.n:Nat):Int);have h1:(s.best ((v-x.g.n:Nat):Int)).1≠0:=λg=>hb (.inl g);have h2:(s.best ((v-x.g.n:Nat):Int)).2≠0:=λg=>hb (.inr g);obtain⟨m1,c1,c2,c3⟩:=b1 h1;obtain⟨m2,d1,d2,d3⟩:=b2 h2;rcases P9 hv hp (oE h1 c1 c2 c3) (oE h2 d1 d2 d3) with g|g);{rw[g];exact v9 (WC _)}
   {rw[g];exact Yy hL (.inr rfl) h2}
def VS {s:Scp}{x:FQry}(hq:s.q=x.q)(hv:s.q.valid=true)(hx:x.small)(hL:LB KB s.lems){D N hi:Nat}(hh:hi<=x.g.n+x.g.us.length){c0:Rat}:∀ {ts:List (Int×Rat)} {l l':List (Row×Rat)} {lo M e E:Nat},Cn ts->(∀ t,t∈ts->(lo:Int)<=t.1/\t.1<hi)->lo<=hi->(∀ t,t∈ts->Ov D N t.2)->0<E->E<B^e->e+N<=M->Ov (D*E) M (c0-SK s l)->s.aboveL ts l=some l' ->∃ M' e' E',0<E'/\E'<B^e'/\e'+N<=M'/\Ov (D*E') M' (c0-SK s l')/\M'+pgv x.g.n lo<=M+pgv x.g.n hi
 |[],l,l',lo,M,e,E,_,_,hlh,_,h0,h1,h2,h3,h=>by cases h;have:=nF (hi:=hi) (λv _=>Jy x.g.n v) hlh (yC _);exact⟨M,e,E,h0,h1,h2,h3,by omega⟩
 |t::r,l,l',lo,M,e,E,hc,hb,hlh,hf,h0,h1,h2,h3,h=>by
  (obtain⟨g1,g2⟩:=hb t wB;obtain⟨v,hv1⟩:∃ v:Nat,t.1=v:=⟨t.1.toNat,by omega⟩;have hvl:v<x.g.n+x.g.us.length:=by omega);unfold Scp.aboveL at h
  (have hm:∀ {more:List (Row×Rat)},(if 0<yB t.2 then some (s.atLeastM t.1) else s.atMostM t.1)=some more->Fits (bz x.g.n v) (SK s more):=λ{more} g=>by grind [Ax,Pm]);split at h
  {cases h}
  ·(rename_i more hmore;have hb1:=hm hmore;have hca:Ov D N (-(vG t.2)):=by have:=hf t wB;unfold vG;split;{simp_all};{exact this.neg});have n1:=HI h3 hca hb1 h1 h2;rw[show c0-SK s l+-(vG t.2)*SK s more=c0-SK s (xS l more (vG t.2)) by grind [KW]] at n1;obtain⟨M',e',E',k1,k2,k3,k4,k5⟩:=VS hq hv hx hL hh (lo:=v+1) (M:=M+bz x.g.n v+1) (e:=e+bz x.g.n v) hc.tail
    (λu hu=>by have:=hc.lt u hu;grind) oM (λu hu=>hf u (x9 _ hu))
    (ZH h0 (SK s more).den_pos) (xX h1 hb1.den) oM n1 h
   have z1:=nF (hi:=hi) (λv _=>Jy x.g.n v) (a:=lo) (b:=v) oM oM;have z2:=Pc x.g.n v;exact⟨M',e',E',k1,k2,k3,k4,by omega⟩
def Fs {s:Scp}{x:FQry}(hq:s.q=x.q)(hv:s.q.valid=true)(hx:x.small)(hL:LB KB s.lems){N hi:Nat}(hh:hi<=x.g.n+x.g.us.length){f:F}(hf:f.cd N)(hw:f.wf (hi:Int)){v:Rat×List (Row×Rat)}(h:s.above f=some v):Fits (N+1+pgv x.g.n hi) v.1:=by
 obtain⟨D,d0,d1,d2,d3⟩:=hf;unfold Scp.above at h;obtain⟨l,hl,rfl⟩:=VP.1 h;obtain⟨g1,g2,g3⟩:=Wz hq hv hx (λt ht=>by have:=hw.v t ht;omega) hl (λt ht=>absurd ht (by simp)) Rs.nil;obtain⟨g,h1,h2,h3,h4⟩:=Rg g2 g1;obtain⟨M',e',E',k1,k2,k3,k4,k5⟩:=VS hq hv hx hL hh (D:=D) (N:=N) (c0:=f.c) (lo:=0) (M:=N+1) (e:=1) (E:=1) hw.cn (λt ht=>by have:=hw.v t ht;omega) (yY _)
  (λt ht=>by have:=d2 t.1;rw[hw.cn.co_mem ht] at this;omega) Nat.one_pos (by decide) oM (by rw[tG];show Ov _ _ (f.c-0);rw[show f.c-0=f.c by grind];exact d3.mono oM) hl
 show Fits _ (f.sub (s.sum (mR l)).2).c;rw[h1];show Fits _ (f.c+g.c * -1);rw[h3,show f.c+SK s l * -1=f.c-SK s l by grind];refine (k4.fits (ZH d0 k1) ?_).mono oM;exact uP (xX d1 k2) (fY wY oM)
structure Rv (x:FQry) (s:Scp) (p c:Nat):Prop where
 z:Isz x s
 q:s.q=x.q
 pl:s.path.length<=p
 len:s.lems.length<=c
 l:∀ m,m∈s.lems->(∃ q,m.v=zI q)/\Msz (2^16) m.pf/\m.pf.length<=20
 r:∀ (i:Nat) m,s.lems[i]?=some m->∀ y,y∈m.pf->RoIn ⟨s.q,s.path,s.lems.take i⟩ y.row
structure Sq (x:FQry):Prop where
 s:x.small
 o:x.ok
 u:∀ f,f∈x.g.us->f.cd 1
 g:x.goal.cd 1
def p9 (raw:List UInt8):Sq (fdY raw 0).1:=⟨pK raw 0,Pz raw 0,λf hf=>Cl hf,Cr raw _ _⟩
theorem Rv.usz {x:FQry}{s:Scp}{p c:Nat}(hx:Sq x)(h:Rv x s p c)(hp:p<=1000)(hc:c<=1000):Usz s/\s.q.sz (2^20)/\Dsz (2^20) s.path/\s.sz (2^20):=by
 have hpl:=h.pl;have hlen:=h.len;have hv:s.q.valid=true:=by rw[h.q];exact hx.s.valid hx.o
 have hq:s.q.sz 43:=by rw[h.q];exact hx.s.sz
 have hd:Dsz 3 s.path:=⟨by omega,h.z.p⟩;have hl:Lsz (2^20) s.lems:=⟨by omega,λm hm=>by obtain⟨q,hq⟩:=(h.l m hm).1;obtain⟨i,_,hf⟩:=h.z.lb m hm;rw[hq,z9] at hf;rw[hq];exact zU (hf.mono (vI (Gu i) (by decide))),λm hm=>(h.l m hm).2.1.mono (by decide)⟩;exact⟨⟨hq.mono (by decide),⟨hd.len,λd hd'=>(hd.sz d hd').mono (by decide)⟩,hl,hv⟩,hq.mono (by decide),⟨hd.len,λd hd'=>(hd.sz d hd').mono (by decide)⟩,⟨hq.mono (by decide),⟨hd.len,λd hd'=>(hd.sz d hd').mono (by decide)⟩,hl⟩⟩
theorem RoIn.mono {s t:Scp}{r:Row}(h:RoIn s r)(hp:s.path.length<=t.path.length)(hl:s.lems.length<=t.lems.length):RoIn t r :=
 ⟨h.i,λg=>by have:=h.p g;omega,by have:=h.lo;omega,by have:=h.hi;omega⟩
theorem Rv.add {x:FQry}{s:Scp}{p c j:Nat}(h:Rv x s p c){up:Bool}{v:Rat}{l:List (Row×Rat)}(hv:Fits (KB j) v)(hm:∀ t,t∈l->Fits (2^16) t.2)(hr:∀ t,t∈l->RoIn s t.1)(hl:l.length<=20):Rv x ⟨s.q,s.path,s.lems++[⟨j,up,zI v,mR l⟩]⟩ p (c+1) where
 z:=⟨h.z.g,h.z.r,h.z.p,h.z.pl,λm hm'=>by
  rcases qH.1 hm' with g|g;{exact h.z.lb m g}
  ·obtain rfl:=jA.1 g;exact⟨j,rfl,by grind [z9]⟩⟩
 q:=h.q
 pl:=h.pl
 len:=by show (s.lems++_).length<=_;rw[rB,List.length_singleton];have:=h.len;omega
 l m hm':=by rcases qH.1 hm' with g|g;{exact h.l m g};{obtain rfl:=jA.1 g;refine⟨⟨v,rfl⟩,⟨by grind [kT],λa ha=>?_⟩,by grind [kT]⟩;obtain⟨t,ht,rfl⟩:=xB.1 ha;grind [zU]}
 r i m hi y hy:=by
  have hi':(s.lems++[⟨(j:Int),up,zI v,mR l⟩])[i]?=some m:=hi;by_cases hlt:i<s.lems.length;{rw[C6 hlt] at hi';show RoIn ⟨s.q,s.path,(s.lems++_).take i⟩ y.row;rw[List.take_append_of_le_length oM];exact h.r i m hi' y hy}
  ·(rw[Z8 oM] at hi';have e:i=s.lems.length:=by grind);subst e
   simp at hi';rw[<-hi'] at hy;obtain⟨t,ht,rfl⟩:=xB.1 hy;show RoIn ⟨s.q,s.path,(s.lems++_).take s.lems.length⟩ t.1;rw[List.take_left];exact hr t ht
theorem Rv.mono {x:FQry}{s:Scp}{p c p' c':Nat}(h:Rv x s p c)(hp:p<=p')(hc:c<=c'):Rv x s p' c':=⟨h.z,h.q,vI h.pl hp,vI h.len hc,h.l,h.r⟩
theorem Rv.runL {x:FQry}{s:Scp}{p c j:Nat}(h:Rv x s p c)(hj:j<=3){up:Bool}{o:Option (Rat×List (Row×Rat))}(ho:DomR s (LV j) (2^16) o):Rv x ⟨s.q,s.path,s.lems++runL s j up o⟩ p (c+1):=by
 have e0:Rv x ⟨s.q,s.path,s.lems++[]⟩ p (c+1):=by rw[kF];exact h.mono (yC _) oM
 unfold Go.Proofs.YtaeaffgjdcigoaaGreat.runL;cases o with
 |none=>exact e0| some y =>
  (have v:Fits (KB j) y.1:=by have:=ho.v;unfold LV at this;rw[if_pos hj] at this;exact this);have m:∀ t,t∈y.2->Fits (2^16) t.2:=ho.m;dsimp only;by_cases g:s.strg j up (if up=true then -y.1 else y.1)=true
  {rw[if_pos g];refine h.add ?_ m ho.r ho.len;by_cases hu:up=true;{rw[if_pos hu];exact uW v};grind};grind
theorem Rv.runS {x:FQry}(hx:Sq x){s:Scp}{p c j:Nat}(h:Rv x s p c)(n:Nat){up:Bool}{f:F}(hf:f.cd 1)(hw:f.wf ((x.g.n+j:Nat):Int))(hj:j<x.g.us.length):Rv x (runS n s j up f) p (c+1):=by have hus:=hx.s.g.us;exact h.runL oM ((U2 hx.s hx.o h.z hx.u hf (by decide) hw oM).2 n)
def Ga {x:FQry}{p:A}{r:List A}{j:Nat}(hu:p::r=(x.g.us.drop j).map fA):∃ g,x.g.us[j]?=some g/\p=fA g/\r=(x.g.us.drop (j+1)).map fA:=by grind [List.length_map,List.drop_eq_getElem_cons]
theorem Rv.runG {x:FQry}(hx:Sq x){p:Nat}(n:Nat):∀ {us:List A} {j c:Nat} {s:Scp},us=(x.g.us.drop j).map fA->Rv x s p c->Rv x (runG n us j s) p (c+2*us.length)
 |[],j,c,s,_,h=>h| q::r,j,c,s,hu,h=>by obtain⟨g,h1,rfl,h3⟩:=Ga hu;have hlt:=(vV.1 h1).1;have hc:=hx.u g (z8 h1);have hw:=hx.o.us j g h1;unfold Go.Proofs.YtaeaffgjdcigoaaGreat.runG;rw[kL];have:=Rv.runG hx (p:=p) n (us:=r) (j:=j+1) h3 ((h.runS hx n (up:=false) hc hw hlt).runS hx n (up:=true) hc.neg1 hw.scale hlt);grind
theorem Rv.run {x:FQry}(hx:Sq x){s:Scp}{p c:Nat}(h:Rv x s p c)(n:Nat):Rv x (s.run n) p (c+8):=by
 have hus:=hx.s.g.us;have:=h.runG hx n (us:=s.q.g.us) (j:=0) (by rw[h.q];rfl);have hl:s.q.g.us.length<=4:=by rw[h.q];show (x.g.us.map fA).length<=4;grind
 exact this.mono (yC _) oM
def Am {n m:Nat}{p:List Dec}(h:PathOk n m p):∀ d,d∈p->d.x.sz 3:=λd hd=>by rcases h.d d hd with⟨_,_,_,e⟩|⟨_,_,_,q,hq,e⟩;{rw[e];exact⟨yY _,yY _⟩};{rw[e];exact zU (hq.mono (by decide))}
def PC (raw:List UInt8):Rv (fdY raw 0).1 (fdS raw) 3 0:=by obtain⟨h1,h2⟩:=Kl raw;exact⟨⟨rfl,rfl,Am h1,by omega,λm hm=>absurd hm (by simp[fdS])⟩,rfl,h2,by simp[fdS],λm hm=>absurd hm (by simp[fdS]),λi m hm=>by grind [fdS]⟩
def J3 {x:FQry}{s:Scp}(hx:x.small)(hq:s.q=x.q){v:Nat}(hv:v<x.g.n+x.g.us.length):∀ t,t∈s.atLeastM v->RoIn s t.1:=λt ht=>by
 have hn:s.q.g.n=(x.g.n:Int):=by rw[hq];rfl
 have hn2:=hx.g.n2;have hus:=hx.g.us;have z:(0:Int)<=0/\(0:Int)<=(s.lems.length:Int):=by omega
 unfold Scp.atLeastM at ht;rw[hn] at ht;split at ht;{obtain rfl:=jA.1 ht;grind [aH]};{obtain rfl:=jA.1 ht;show RoIn s ⟨5,(v:Int)-(x.g.n:Int),0,0⟩;rw[show (v:Int)-(x.g.n:Int)=((v-x.g.n:Nat):Int) by omega];grind [aH]}
def Fo {x:FQry}{s:Scp}(hx:x.small)(hq:s.q=x.q){v:Nat}(hv:v<x.g.n+x.g.us.length){m:List (Row×Rat)}(hm:s.atMostM v=some m):∀ t,t∈m->RoIn s t.1:=λt ht=>by
 have hn:s.q.g.n=(x.g.n:Int):=by rw[hq];rfl
 have hn2:=hx.g.n2;have hus:=hx.g.us;have z:(0:Int)<=0/\(0:Int)<=(s.lems.length:Int):=by omega
 unfold Scp.atMostM at hm;rw[hn] at hm;split at hm;{cases hm;obtain rfl:=jA.1 ht;grind [aH]};{rename_i hvn;obtain⟨j,rfl⟩:∃ j,v=x.g.n+j:=⟨v-x.g.n,by omega⟩;rw[show ((x.g.n+j:Nat):Int)-(x.g.n:Int)=(j:Int) by omega] at hm;obtain⟨b1,b2⟩:=tE s j;split at hm;{cases hm};{cases hm;unfold upM at ht;split at ht;{obtain rfl:=jA.1 ht;grind [aH]};{split at ht;{rcases yM.1 ht with rfl|ht;{grind [aH]};{obtain rfl:=jA.1 ht;grind [aH]}};{rcases yM.1 ht with rfl|ht;{grind [aH]};{obtain rfl:=jA.1 ht;grind [aH]}}}}}
def VT {x:FQry}{s:Scp}(hx:x.small)(hq:s.q=x.q):∀ {ts:List (Int×Rat)} {l l':List (Row×Rat)},(∀ t,t∈ts->0<=t.1/\t.1<((x.g.n+x.g.us.length:Nat):Int))->(∀ t,t∈l->RoIn s t.1)->s.aboveL ts l=some l'->∀ t,t∈l'->RoIn s t.1
 |[],l,l',_,hl,h=>by cases h;exact hl
 |t::r,l,l',hv,hl,h=>by obtain⟨h1,h2⟩:=hv t wB;obtain⟨v,hv1⟩:∃ v:Nat,t.1=v:=⟨t.1.toNat,by omega⟩;unfold Scp.aboveL at h;split at h;{cases h};{rename_i more hmore;refine VT hx hq (ts:=r) (λu hu=>hv u (x9 _ hu)) (sX (P:=λr=>RoIn s r) ?_ hl) h;rw[hv1] at hmore;split at hmore;{cases hmore;exact J3 hx hq oM};{exact Fo hx hq oM hmore}}
def VR {x:FQry}(hx:Sq x){s:Scp}{p c j:Nat}(h:Rv x s p c){f:F}(hf:f.cd 1)(hw:f.wf ((x.g.n+j:Nat):Int))(hj:j<x.g.us.length){v:Rat×List (Row×Rat)}(hv:s.above f=some v):Fits (KB j) v.1/\(∀ t,t∈v.2->Fits (2^16) t.2)/\(∀ t,t∈v.2->RoIn s t.1)/\v.2.length<=20:=by
 have hus:=hx.s.g.us;have hn2:=hx.s.g.n2;obtain⟨l1,l2,l3,l4,l5,l6,l7⟩:=iA hx.s.g.n1 hx.s.g.n2 (by omega:j<=4);have hl:=hw.len;have hval:s.q.valid=true:=by rw[h.q];exact hx.s.valid hx.o
 have e:LV j=KB j:=by unfold LV;grind
 obtain⟨g1,g2,g3⟩:=KU h.q hx.s WC h.z.lb ((hf.fl hw.cn hl).mono (by decide) oM) hw hv;refine⟨(Fs h.q hval hx.s h.z.lb oM hf hw hv).mono oM,λt ht=>(g2 t ht).mono oM,?_,by omega⟩;unfold Scp.above at hv;obtain⟨l,hl,rfl⟩:=VP.1 hv;exact VT hx.s h.q (λt ht=>by have:=hw.v t ht;omega) (λt ht=>absurd ht (by simp)) hl
def Gi {x:FQry}(hx:Sq x){path:List Dec}{p:Nat}:∀ {us:List A} {j c:Nat} {L:List Lem},us=(x.g.us.drop j).map fA->Rv x ⟨x.q,path,L⟩ p c->Rv x ⟨x.q,path,U8 x.q path us j L⟩ p (c+2*us.length)
 |[],j,c,L,_,h=>h| q::r,j,c,L,hu,h=>by
  obtain⟨g,h1,rfl,h3⟩:=Ga hu;have hlt:=(vV.1 h1).1;have hf:=hx.u g (z8 h1);have hw:=hx.o.us j g h1;unfold U8;rw[kL];have kx:=λv hv=>VR hx h (v:=v) hf hw hlt hv;have ky:=λv hv=>VR hx h (v:=v) hf.neg1 hw.scale hlt hv;have key:Rv x ⟨x.q,path,L++WT j ((⟨x.q,path,L⟩:Scp).above g) ((⟨x.q,path,L⟩:Scp).above (g.scale (-1)))⟩ p (c+2):=by
   generalize (⟨x.q,path,L⟩:Scp).above g=X at *;generalize (⟨x.q,path,L⟩:Scp).above (g.scale (-1))=Y at *;cases X with
   |none =>
    cases Y with
    |none =>
     show Rv x ⟨x.q,path,L++([]++[])⟩ p (c+2);rw[kF,kF];exact h.mono (yC _) oM
    |some w =>
     obtain⟨a1,a2,a3,a4⟩:=ky w rfl;exact (h.add (uW a1) a2 a3 a4).mono (yC _) oM
   |some v =>
    obtain⟨b1,b2,b3,b4⟩:=kx v rfl;cases Y with
    |none=>exact (h.add b1 b2 b3 b4).mono (yC _) oM| some w =>
     obtain⟨a1,a2,a3,a4⟩:=ky w rfl;show Rv x ⟨x.q,path,L++([⟨(j:Int),false,zI v.1,mR v.2⟩]++[⟨(j:Int),true,zI (-w.1),mR w.2⟩])⟩ p (c+2);rw[<-KN];exact (h.add b1 b2 b3 b4).add (uW a1) a2 (λt ht=>(a3 t ht).mono (yC _) (by grind)) a4
  have:=Gi hx (us:=r) (j:=j+1) h3 key;grind
def JU (raw:List UInt8):Rv (fdY raw 0).1 (ext raw) 3 8:=by have hx:=p9 raw;have h:=PC raw;unfold ext;split;{have:=Gi hx (us:=(fdY raw 0).1.g.us.map fA) (j:=0) (by simp) h;have hus:=hx.s.g.us;exact this.mono (yC _) (by grind)};{exact h.mono (yC _) (by decide)}
def U1 (raw:List UInt8):Rv (fdY raw 0).1 (dvd raw) 3 16:=by unfold dvd;split;{exact (JU raw).run (p9 raw) _};{exact (JU raw).mono (yC _) (by decide)}
theorem Rv.dec {x:FQry}{s:Scp}{p c:Nat}(h:Rv x s p c){d:Dec}(hd:d.x=R0)(hp:p<1000):Rv x ⟨s.q,s.path++[d],s.lems⟩ (p+1) c:=by
 have hpl:=h.pl;have hl:(s.path++[d]).length=s.path.length+1:=by grind
 refine⟨⟨h.z.g,h.z.r,λe he=>?_,by grind,h.z.lb⟩,h.q,by grind,h.len,h.l,λi m hi y hy=>(h.r i m hi y hy).mono (by grind) (yC _)⟩;rcases qH.1 he with g|g;{exact h.z.p e g};{obtain rfl:=jA.1 g;rw[hd];exact⟨yY _,yY _⟩}
theorem Rv.opnG {x:FQry}{n:Nat}:∀ {k j p c:Nat} {s:Scp},p+k<1000->Rv x s p c->Rv x (opnG n k j s) (p+k) c
 |0,j,p,c,s,_,h=>h| k+1,j,p,c,s,hp,h=>by unfold Go.Proofs.YtaeaffgjdcigoaaGreat.opnG;rw[show p+(k+1)=p+1+k by omega];refine Rv.opnG (k:=k) oM ?_;split;{exact h.dec rfl oM};{exact h.mono oM (yC _)}
def oY (raw:List UInt8):Rv (fdY raw 0).1 (jS raw) 7 32:=by
 have hx:=p9 raw;have hus:=hx.s.g.us;have h1:=(U1 raw).run hx (y8 raw%3);have hl:((dvd raw).run (y8 raw%3)).q.g.us.length<=4:=by rw[h1.q];show ((fdY raw 0).1.g.us.map fA).length<=4;grind
 have h2:=(Rv.opnG (n:=y8 raw) (k:=((dvd raw).run (y8 raw%3)).q.g.us.length) (j:=0) oM h1).mono (p':=7) (c':=24) oM oM;unfold jS;dsimp only;split;{exact h2.run hx 1};{exact h2.mono (yC _) (by decide)}
def DI (w:UInt8):nx .i64 (w.toNat:Int)=(w.toNat:Int):=by have:=w.toNat_lt;unfold nx;simp[IntKind.wrap,IntKind.signed,IntKind.bits];omega
def nV {raw:List UInt8}{i:Nat}{w:UInt8}(h:raw[i]?=some w):y8 (raw.take (i+1))=y8 (raw.take i)+w.toNat:=by unfold y8;rw[tN,h];simp
def o4 (raw:List UInt8):∀ i,y8 (raw.take i)<=255*i
 |0=>by simp[y8]| i+1=>by
  cases h:raw[i]? with
  |none =>
   (have:raw.take (i+1)=raw.take i:=by rw[tN,h];simp);rw[this]
   have:=o4 raw i;omega
  |some w =>
   rw[nV h];have:=o4 raw i;have:=w.toNat_lt;omega
def Ny (raw:List UInt8)(hr:raw.length<2^38):zD 109 [u8v raw] (sv (ext raw)):=by
 refine sF Tryz.f109 ?_;have c1:=FZ raw hr;have c2:=BZ raw;have he:ext raw=if 0<y8 raw%3 then (fdS raw).bounded else fdS raw:=rfl
 have hsd:fdS raw=⟨(fdY raw 0).1.q,(fdS raw).path,[]⟩:=rfl;have hle:=o4 raw;have hst:=λi w h=>nV (raw:=raw) (i:=i) (w:=w) h;obtain⟨E,hE⟩:=ex (ext raw);rw[hE] at he ⊢;generalize (fdS raw).bounded=Bd at *;generalize (fdS raw).path=path at *;rw[hsd] at c1 c2 he;generalize (fdY raw 0).1.q=Q at *;clear hsd hE;obtain⟨⟨n,us,os⟩,⟨lo,hi',rows⟩,⟨ts,c⟩⟩:=Q;have hfull:raw.take raw.length=raw:=vP;obtain⟨S,hS⟩:∃ S:Nat->Nat,∀ i,S i=y8 (raw.take i):=⟨_,λ_=>rfl⟩;have hS0:S 0=0:=by rw[hS];rfl
 have hSl:y8 raw=S raw.length:=by rw[hS,hfull]
 rw[hSl] at he;simp only[<-hS] at hle hst;clear hS hSl hfull;cbv;refine cA c1 ?_;cbv;refine zW (σ:=Nat) (λi=>⟨[(0,u8v raw),(2,.ptr 2 0),(3,.ptr 3 0),(4,iV ((S i:Int))),(5,iV i)],
   [(2,.box [iV 0,.nil,.nil,.nil,.nil,.nil,.nil,.ff,.nil,.nil,.nil,.nil]),(3,.box [iV n,alv us,alv os,rlv lo,rlv hi',alv rows,tsv ts,bV c.neg,nat c.num,nat c.den,dlv path,.nil])]⟩)
  (λi=>i<=raw.length) (λi=>raw.length-i) 0 (yY _) (.le (by cbv;repeat' first|exact trivial|exact lR|exact zB (by rw[hS0];rfl)|exact zB om|apply And.intro) okZ rfl) ?_
 intro i hi;cbv;refine zE (λh=>?_) (λh=>?_)
 ·(have hlt:i<raw.length:=by rw[zA] at h;exact om);obtain⟨w,hw⟩:=zQ hlt
  have e:=hst i w hw;have e2:=hle i;have e3:=hle (i+1);have hw8:=w.toNat_lt;have e4:=DI w;clear hst hle c1 c2 he;cbv;refine yE hw i3 iZ ?_;cbv;exact⟨zC (by rw[e4];exact om) (by rw[e4];exact om),zC om om,i+1,(show i+1<=_ by omega),(show raw.length-(i+1)<raw.length-i by omega),.le (by cbv;repeat' first|exact trivial|exact lR|exact zB (by rw[e4,e];exact om)|exact zB om|apply And.intro) okZ rfl⟩
 ·(have hi':i=raw.length:=by rw[zA] at h;exact om);subst hi'
  have hm:irem ((S raw.length:Nat):Int) 3=((S raw.length%3:Nat):Int):=vQ (b:=3);clear hst hle;generalize S raw.length=M at *;cbv;refine⟨vH om,?_⟩;cbv;refine zE (λg=>?_) (λg=>?_);{rw[if_pos (by exact om)] at he;subst he;cbv;refine cA c2 ?_;cbv;exact rA};{rw[if_neg (by exact om)] at he;subst he;cbv;exact rA}
end Go.Proofs.YtaeaffgjdcigoaaGreat
