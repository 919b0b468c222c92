/- A part of the proof: KpK, KpJ, KcU. -/
import Derived.Test.YtaeaffgjdcigoaaGreatC38
import Derived.Test.YtaeaffgjdcigoaaGreatC28
import Derived.Test.YtaeaffgjdcigoaaGreatC32
import Derived.Test.YtaeaffgjdcigoaaGreatC33
import Derived.Test.YtaeaffgjdcigoaaGreatC37
import Derived.Test.YtaeaffgjdcigoaaGreatC26
import Derived.Test.YtaeaffgjdcigoaaGreatC44
import Derived.Test.YtaeaffgjdcigoaaGreatC16
set_option linter.all false
namespace Go.Proofs.YtaeaffgjdcigoaaGreat
open Go
set_option maxRecDepth 100000
set_option maxHeartbeats 4000000
theorem zZ3 {s:Scp}(hv:s.q.valid=true){i:Nat}{p:F}(hp:s.q.g.us[i]?=some (fA p)){lo hi:Nat}{l u:Rat}(hl:s.lem lo i false=some l)(hu:s.lem hi i true=some u):SK s (upM i lo hi l u)=0\/SK s (upM i lo hi l u)=u:=by
 have f12:s.fm ⟨12,i,0,hi⟩=some ((F.num u).sub p):=by rw[cC hv (by decide) (by decide) hp,hu];rfl
 unfold upM;split
 ·(rename_i h;have f10:s.fm ⟨10,i,0,hi⟩=some ((F.var (s.q.g.n+i)).scale (-1)):=by rw[cC hv (by decide) (by decide) hp,hu];show (if offB s ⟨10,i,0,hi⟩ u true=true then _ else none)=_;rw[if_pos (by unfold offB;rw[decide_eq_true h];simp)]);refine .inl ?_;simp only[SK,j3 f10];show 1*(0+(0:Rat) * -1)+0=0;grind
 ·rename_i h1;split
  ·(rename_i h;have f8:s.fm ⟨8,i,lo,0⟩=some (p.sub (F.var (s.q.g.n+i))):=by rw[cC hv (by decide) (by decide) hp,hl];show (if onB s ⟨8,i,lo,0⟩ l true=true then _ else none)=_;rw[if_pos (by unfold onB;rw[decide_eq_true h];simp)]);refine .inr ?_;simp only[SK,j3 f8,j3 f12];show 1*(p.c+(0:Rat) * -1)+(1*(u+p.c * -1)+0)=u;grind
  ·rename_i h2;have hu0:0<u:=pJ.1 oM;have hl0:l<0:=zHM.1 oM;have f13:s.fm ⟨13,i,lo,hi⟩=some (((p.sub (F.num l)).scale u).sub ((F.var (s.q.g.n+i)).scale (u-l))):=by rw[cC hv (by decide) (by decide) hp,hl,hu];show (if _/\_/\_/\_ then _ else none)=_;rw[if_pos ⟨rfl,rfl,by show z4 l<0;omega,by show 0<z4 u;omega⟩];rfl
   (have hne:u-l≠0:=by grind);have hone:1/(u-l)*(u-l)=1:=by rw[f9,zB8];exact Rat.inv_mul_cancel _ hne
   generalize 1/(u-l)=d at *
   (refine .inr ?_;simp only[SK,j3 f12,j3 f13];show d*u*(u+p.c * -1)+(d*((0+(p.c+l * -1)*u)+(0+(0:Rat)*(u-l)) * -1)+0)=u;have e:d*u*(u+p.c * -1)+(d*((0+(p.c+l * -1)*u)+(0+(0:Rat)*(u-l)) * -1)+0)=u*(d*(u-l)):=by grind);rw[e,hone]
   grind
def bz (n v:Nat):Nat:=if v<n then 3 else KB (v-n)
theorem zY1 (n v:Nat):pgv n (v+1)=pgv n v+(bz n v+1):=by unfold bz;show pgv n v+(if v<n then 4 else KB (v-n)+1)=_;split <;> rfl
theorem zVY {s:Scp}{x:FQry}(hq:s.q=x.q)(hv:s.q.valid=true)(hx:x.small){v:Nat}(h:v<x.g.n+x.g.us.length):Fits (bz x.g.n v) (SK s (s.atLeastM v)):=by
 have hn:s.q.g.n=(x.g.n:Int):=by rw[hq];rfl
 unfold Scp.atLeastM bz;by_cases hlt:v<x.g.n
 ·(rw[if_pos hlt,if_pos oM];obtain⟨y,hy⟩:∃ y,s.q.r.lo[v]?=some y:=zT (by rw[hq];show v<(x.r.bs.map _).length;rw[xA,hx.r.bs];exact hlt);have hf:Fits 3 y.q:=by have hm:=yA hy;rw[hq] at hm;obtain⟨b,hb,rfl⟩:=y8.1 hm;rw[z6];exact (hx.r.bf b hb).1);simp only[SK,j3 (zW4 hv hy)];show Fits 3 (1*(0+y.q * -1)+0);rw[show 1*(0+y.q * -1)+0=-y.q by grind];exact qD hf
 ·(rw[if_neg hlt,if_neg oM];have e:(v:Int)-s.q.g.n=((v-x.g.n:Nat):Int):=by omega);have hp:s.q.g.us[v-x.g.n]?=some (fA x.g.us[v-x.g.n]):=by rw[hq];show (x.g.us.map fA)[v-x.g.n]?=_;rw[bR];simp[show v-x.g.n<x.g.us.length by omega]
  (have f5:s.fm ⟨5,((v-x.g.n:Nat):Int),0,0⟩=some (F.var (s.q.g.n+(v-x.g.n:Nat))):=by rw[cC hv (by decide) (by decide) hp];rfl);rw[e];simp only[SK,j3 f5];show Fits _ (1*(0:Rat)+0);rw[show 1*(0:Rat)+0=0 by grind];exact uK (zFP _)
theorem zY8 {s:Scp}{x:FQry}(hq:s.q=x.q)(hv:s.q.valid=true)(hx:x.small)(hL:LB KB s.lems){v:Nat}(h:v<x.g.n+x.g.us.length){more:List (Row×Rat)}(hm:s.atMostM v=some more):Fits (bz x.g.n v) (SK s more):=by
 have hn:s.q.g.n=(x.g.n:Int):=by rw[hq];rfl
 unfold Scp.atMostM at hm;unfold bz;by_cases hlt:v<x.g.n
 ·(rw[if_pos oM] at hm;rw[if_pos hlt];cases hm;obtain⟨y,hy⟩:∃ y,s.q.r.hi[v]?=some y:=zT (by rw[hq];show v<(x.r.bs.map _).length;rw[xA,hx.r.bs];exact hlt);have hf:Fits 3 y.q:=by have hm:=yA hy;rw[hq] at hm;obtain⟨b,hb,rfl⟩:=y8.1 hm;rw[z6];exact (hx.r.bf b hb).2);simp only[SK,j3 (zW6 hv hy)];show Fits 3 (1*(y.q+(0:Rat) * -1)+0);rw[show 1*(y.q+(0:Rat) * -1)+0=y.q by grind];exact hf
 ·(rw[if_neg oM] at hm;rw[if_neg hlt];have e:(v:Int)-s.q.g.n=((v-x.g.n:Nat):Int):=by omega);have hp:s.q.g.us[v-x.g.n]?=some (fA x.g.us[v-x.g.n]):=by rw[hq];show (x.g.us.map fA)[v-x.g.n]?=_;rw[bR];simp[show v-x.g.n<x.g.us.length by omega]
  rw[e] at hm;split at hm;{cases hm}
  ·(rename_i hb;cases hm;obtain⟨b1,b2⟩:=zO2 s ((v-x.g.n:Nat):Int);have h1:(s.best ((v-x.g.n:Nat):Int)).1≠0:=fun g=>hb (.inl g);have h2:(s.best ((v-x.g.n:Nat):Int)).2≠0:=fun g=>hb (.inr g);obtain⟨m1,c1,c2,c3⟩:=b1 h1;obtain⟨m2,d1,d2,d3⟩:=b2 h2;rcases zZ3 hv hp (oO h1 c1 c2 c3) (oO h2 d1 d2 d3) with g|g);{rw[g];exact uK (zFP _)}
   {rw[g];exact zE7 hL (.inr rfl) h2}
theorem zGQ {s:Scp}{x:FQry}(hq:s.q=x.q)(hv:s.q.valid=true)(hx:x.small)(hL:LB KB s.lems){D N hi:Nat}(hh:hi<=x.g.n+x.g.us.length){c0:Rat}:∀ {ts:List (Int×Rat)} {l l':List (Row×Rat)} {lo M e E:Nat},Cn ts->(∀ t,t∈ts->(lo:Int)<=t.1/\t.1<hi)->lo<=hi->(∀ t,t∈ts->Ov D N t.2)->0<E->E<B^e->e+N<=M->Ov (D*E) M (c0-SK s l)->s.aboveL ts l=some l' ->∃ M' e' E',0<E'/\E'<B^e'/\e'+N<=M'/\Ov (D*E') M' (c0-SK s l')/\M'+pgv x.g.n lo<=M+pgv x.g.n hi
 |[],l,l',lo,M,e,E,_,_,hlh,_,h0,h1,h2,h3,h=>by cases h;have:=nO (hi:=hi) (fun v _=>zM4 x.g.n v) hlh (zZ _);exact⟨M,e,E,h0,h1,h2,h3,by omega⟩
 |t::r,l,l',lo,M,e,E,hc,hb,hlh,hf,h0,h1,h2,h3,h=>by
  (obtain⟨g1,g2⟩:=hb t xM;obtain⟨v,hv1⟩:∃ v:Nat,t.1=v:=⟨t.1.toNat,by omega⟩;have hvl:v<x.g.n+x.g.us.length:=by omega);unfold Scp.aboveL at h
  (have hm:∀ {more:List (Row×Rat)},(if 0<z4 t.2 then some (s.atLeastM t.1) else s.atMostM t.1)=some more->Fits (bz x.g.n v) (SK s more):=fun {more} g=>by rw[hv1] at g;split at g;{cases g;exact zVY hq hv hx hvl};{exact zY8 hq hv hx hL hvl g});split at h;{cases h}
  ·(rename_i more hmore;have hb1:=hm hmore;have hca:Ov D N (-(vK t.2)):=by have:=hf t xM;unfold vK;split;{exact this.neg.neg};{exact this.neg});have n1:=zOA h3 hca hb1 h1 h2;rw[show c0-SK s l+-(vK t.2)*SK s more=c0-SK s (xT l more (vK t.2)) by rw[zK2];grind] at n1;obtain⟨M',e',E',k1,k2,k3,k4,k5⟩:=zGQ hq hv hx hL hh (lo:=v+1) (M:=M+bz x.g.n v+1) (e:=e+bz x.g.n v) hc.tail
    (fun u hu=>by have:=hc.lt u hu;have:=(hb u (xN _ hu)).2;omega) oM (fun u hu=>hf u (xN _ hu))
    (zB5 h0 (SK s more).den_pos) (x6 h1 hb1.den) oM n1 h
   have z1:=nO (hi:=hi) (fun v _=>zM4 x.g.n v) (a:=lo) (b:=v) oM oM;have z2:=zY1 x.g.n v;exact⟨M',e',E',k1,k2,k3,k4,by omega⟩
theorem zQC {s:Scp}{x:FQry}(hq:s.q=x.q)(hv:s.q.valid=true)(hx:x.small)(hL:LB KB s.lems){N hi:Nat}(hh:hi<=x.g.n+x.g.us.length){f:F}(hf:f.cd N)(hw:f.wf (hi:Int)){v:Rat×List (Row×Rat)}(h:s.above f=some v):Fits (N+1+pgv x.g.n hi) v.1:=by
 obtain⟨D,d0,d1,d2,d3⟩:=hf;unfold Scp.above at h;obtain⟨l,hl,rfl⟩:=zHE.1 h;obtain⟨g1,g2,g3⟩:=zCY hq hv hx (fun t ht=>by have:=hw.v t ht;omega) hl (fun t ht=>absurd ht (by simp)) Rs.nil;obtain⟨g,h1,h2,h3,h4⟩:=zYF g2 g1;obtain⟨M',e',E',k1,k2,k3,k4,k5⟩:=zGQ hq hv hx hL hh (D:=D) (N:=N) (c0:=f.c) (lo:=0) (M:=N+1) (e:=1) (E:=1) hw.cn (fun t ht=>by have:=hw.v t ht;omega) (xD _)
  (fun t ht=>by have:=d2 t.1;rw[hw.cn.co_mem ht] at this;exact this) Nat.one_pos (by decide) oM (by rw[pD];show Ov _ _ (f.c-0);rw[show f.c-0=f.c by grind];exact d3.mono oM) hl
 show Fits _ (f.sub (s.sum (mR l)).2).c;rw[h1];show Fits _ (f.c+g.c * -1);rw[h3,show f.c+SK s l * -1=f.c-SK s l by grind];refine (k4.fits (zB5 d0 k1) ?_).mono oM;exact uI (x6 d1 k2) (dE w5 oM)
structure Rv (x:FQry) (s:Scp) (p c:Nat):Prop where
 z:Isz x s
 q:s.q=x.q
 pl:s.path.length<=p
 len:s.lems.length<=c
 l:∀ m,m∈s.lems->(∃ q,m.v=zJ q)/\Msz (2^16) m.pf/\m.pf.length<=20
 r:∀ (i:Nat) m,s.lems[i]?=some m->∀ y,y∈m.pf->RoIn ⟨s.q,s.path,s.lems.take i⟩ y.row
structure Sq (x:FQry):Prop where
 s:x.small
 o:x.ok
 u:∀ f,f∈x.g.us->f.cd 1
 g:x.goal.cd 1
theorem rA (raw:List UInt8):Sq (fdY raw 0).1:=⟨r8 raw 0,zZH raw 0,fun f hf=>zTG hf,zND raw _ _⟩
theorem Rv.usz {x:FQry}{s:Scp}{p c:Nat}(hx:Sq x)(h:Rv x s p c)(hp:p<=1000)(hc:c<=1000):Usz s/\s.q.sz (2^20)/\Dsz (2^20) s.path/\s.sz (2^20):=by
 have hpl:=h.pl;have hlen:=h.len;have hv:s.q.valid=true:=by rw[h.q];exact hx.s.valid hx.o
 have hq:s.q.sz 43:=by rw[h.q];exact hx.s.sz
 have hd:Dsz 3 s.path:=⟨by omega,h.z.p⟩;have hl:Lsz (2^20) s.lems:=⟨by omega,fun m hm=>by obtain⟨q,hq⟩:=(h.l m hm).1;obtain⟨i,_,hf⟩:=h.z.lb m hm;rw[hq,z6] at hf;rw[hq];exact zU (hf.mono (vD (zUF i) (by decide))),fun m hm=>(h.l m hm).2.1.mono (by decide)⟩;exact⟨⟨hq.mono (by decide),⟨hd.len,fun d hd'=>(hd.sz d hd').mono (by decide)⟩,hl,hv⟩,hq.mono (by decide),⟨hd.len,fun d hd'=>(hd.sz d hd').mono (by decide)⟩,⟨hq.mono (by decide),⟨hd.len,fun d hd'=>(hd.sz d hd').mono (by decide)⟩,hl⟩⟩
theorem RoIn.mono {s t:Scp}{r:Row}(h:RoIn s r)(hp:s.path.length<=t.path.length)(hl:s.lems.length<=t.lems.length):RoIn t r :=
 ⟨h.i,fun g=>by have:=h.p g;omega,by have:=h.lo;omega,by have:=h.hi;omega⟩
theorem Rv.add {x:FQry}{s:Scp}{p c j:Nat}(h:Rv x s p c){up:Bool}{v:Rat}{l:List (Row×Rat)}(hv:Fits (KB j) v)(hm:∀ t,t∈l->Fits (2^16) t.2)(hr:∀ t,t∈l->RoIn s t.1)(hl:l.length<=20):Rv x ⟨s.q,s.path,s.lems++[⟨j,up,zJ v,mR l⟩]⟩ p (c+1) where
 z:=⟨h.z.g,h.z.r,h.z.p,h.z.pl,fun m hm'=>by
  rcases vX.1 hm' with g|g;{exact h.z.lb m g}
  ·obtain rfl:=vL.1 g;exact⟨j,rfl,by show Fits _ (zJ v).q;rw[z6];exact hv⟩⟩
 q:=h.q
 pl:=h.pl
 len:=by show (s.lems++_).length<=_;rw[qZ,zJF];have:=h.len;omega
 l m hm':=by rcases vX.1 hm' with g|g;{exact h.l m g};{obtain rfl:=vL.1 g;refine⟨⟨v,rfl⟩,⟨by show (mR l).length<_;rw[j1];omega,fun a ha=>?_⟩,by show (mR l).length<=_;rw[j1];exact hl⟩;obtain⟨t,ht,rfl⟩:=y8.1 ha;exact zU (hm t ht)}
 r i m hi y hy:=by
  have hi':(s.lems++[⟨(j:Int),up,zJ v,mR l⟩])[i]?=some m:=hi;by_cases hlt:i<s.lems.length;{rw[zMP hlt] at hi';show RoIn ⟨s.q,s.path,(s.lems++_).take i⟩ y.row;rw[List.take_append_of_le_length oM];exact h.r i m hi' y hy}
  ·(rw[tI oM] at hi';have e:i=s.lems.length:=by have:=(wH.1 hi').1;simp at this;omega);subst e;simp at hi';rw[<-hi'] at hy;obtain⟨t,ht,rfl⟩:=y8.1 hy;show RoIn ⟨s.q,s.path,(s.lems++_).take s.lems.length⟩ t.1;rw[List.take_left];exact hr t ht
theorem Rv.mono {x:FQry}{s:Scp}{p c p' c':Nat}(h:Rv x s p c)(hp:p<=p')(hc:c<=c'):Rv x s p' c':=⟨h.z,h.q,vD h.pl hp,vD h.len hc,h.l,h.r⟩
theorem Rv.runL {x:FQry}{s:Scp}{p c j:Nat}(h:Rv x s p c)(hj:j<=3){up:Bool}{o:Option (Rat×List (Row×Rat))}(ho:DomR s (LV j) (2^16) o):Rv x ⟨s.q,s.path,s.lems++runL s j up o⟩ p (c+1):=by
 have e0:Rv x ⟨s.q,s.path,s.lems++[]⟩ p (c+1):=by rw[uU];exact h.mono (zZ _) oM
 unfold Go.Proofs.YtaeaffgjdcigoaaGreat.runL;cases o with
 |none=>exact e0| some y =>
  (have v:Fits (KB j) y.1:=by have:=ho.v;unfold LV at this;rw[if_pos hj] at this;exact this);have m:∀ t,t∈y.2->Fits (2^16) t.2:=ho.m;dsimp only;by_cases g:s.strg j up (if up=true then -y.1 else y.1)=true
  {rw[if_pos g];refine h.add ?_ m ho.r ho.len;by_cases hu:up=true;{rw[if_pos hu];exact qD v};{rw[if_neg hu];exact v}};{rw[if_neg g];exact e0}
theorem Rv.runS {x:FQry}(hx:Sq x){s:Scp}{p c j:Nat}(h:Rv x s p c)(n:Nat){up:Bool}{f:F}(hf:f.cd 1)(hw:f.wf ((x.g.n+j:Nat):Int))(hj:j<x.g.us.length):Rv x (runS n s j up f) p (c+1):=by have hus:=hx.s.g.us;exact h.runL oM ((zDG hx.s hx.o h.z hx.u hf (by decide) hw oM).2 n)
theorem zOW {x:FQry}{p:A}{r:List A}{j:Nat}(hu:p::r=(x.g.us.drop j).map fA):∃ g,x.g.us[j]?=some g/\p=fA g/\r=(x.g.us.drop (j+1)).map fA:=by
 have hlen:j<x.g.us.length:=by
  (have:((x.g.us.drop j).map fA).length≠0:=by rw[<-hu];simp);rw[xA,m8] at this
  omega
 rw[yAY hlen] at hu;simp only[kA,List.cons.injEq] at hu;exact⟨x.g.us[j],by simp[hlen],hu.1,hu.2⟩
theorem Rv.runG {x:FQry}(hx:Sq x){p:Nat}(n:Nat):∀ {us:List A} {j c:Nat} {s:Scp},us=(x.g.us.drop j).map fA->Rv x s p c->Rv x (runG n us j s) p (c+2*us.length)
 |[],j,c,s,_,h=>h| q::r,j,c,s,hu,h=>by obtain⟨g,h1,rfl,h3⟩:=zOW hu;have hlt:=(wH.1 h1).1;have hc:=hx.u g (yA h1);have hw:=hx.o.us j g h1;unfold Go.Proofs.YtaeaffgjdcigoaaGreat.runG;rw[kY];have:=Rv.runG hx (p:=p) n (us:=r) (j:=j+1) h3 ((h.runS hx n (up:=false) hc hw hlt).runS hx n (up:=true) hc.neg1 hw.scale hlt);rw[kI,show c+2*(r.length+1)=c+1+1+2*r.length by omega];exact this
theorem Rv.run {x:FQry}(hx:Sq x){s:Scp}{p c:Nat}(h:Rv x s p c)(n:Nat):Rv x (s.run n) p (c+8):=by
 have hus:=hx.s.g.us;have:=h.runG hx n (us:=s.q.g.us) (j:=0) (by rw[h.q];rfl);have hl:s.q.g.us.length<=4:=by rw[h.q];show (x.g.us.map fA).length<=4;rw[xA];exact hus
 exact this.mono (zZ _) oM
theorem zVT {n m:Nat}{p:List Dec}(h:PathOk n m p):∀ d,d∈p->d.x.sz 3:=fun d hd=>by rcases h.d d hd with⟨_,_,_,e⟩|⟨_,_,_,q,hq,e⟩;{rw[e];exact⟨xD _,xD _⟩};{rw[e];exact zU (hq.mono (by decide))}
theorem zZK (raw:List UInt8):Rv (fdY raw 0).1 (fdS raw) 3 0:=by obtain⟨h1,h2⟩:=zKK raw;exact⟨⟨rfl,rfl,zVT h1,by omega,fun m hm=>absurd hm (by simp[fdS])⟩,rfl,h2,by simp[fdS],fun m hm=>absurd hm (by simp[fdS]),fun i m hm=>by simp[fdS] at hm⟩
theorem zL5 {x:FQry}{s:Scp}(hx:x.small)(hq:s.q=x.q){v:Nat}(hv:v<x.g.n+x.g.us.length):∀ t,t∈s.atLeastM v->RoIn s t.1:=fun t ht=>by
 have hn:s.q.g.n=(x.g.n:Int):=by rw[hq];rfl
 have hn2:=hx.g.n2;have hus:=hx.g.us;have z:(0:Int)<=0/\(0:Int)<=(s.lems.length:Int):=by omega
 unfold Scp.atLeastM at ht;rw[hn] at ht;split at ht;{obtain rfl:=vL.1 ht;exact bF oM (by decide) z z};{obtain rfl:=vL.1 ht;show RoIn s ⟨5,(v:Int)-(x.g.n:Int),0,0⟩;rw[show (v:Int)-(x.g.n:Int)=((v-x.g.n:Nat):Int) by omega];exact bF oM (by decide) z z}
theorem zQA {x:FQry}{s:Scp}(hx:x.small)(hq:s.q=x.q){v:Nat}(hv:v<x.g.n+x.g.us.length){m:List (Row×Rat)}(hm:s.atMostM v=some m):∀ t,t∈m->RoIn s t.1:=fun t ht=>by
 have hn:s.q.g.n=(x.g.n:Int):=by rw[hq];rfl
 have hn2:=hx.g.n2;have hus:=hx.g.us;have z:(0:Int)<=0/\(0:Int)<=(s.lems.length:Int):=by omega
 unfold Scp.atMostM at hm;rw[hn] at hm;split at hm;{cases hm;obtain rfl:=vL.1 ht;exact bF oM (by decide) z z};{rename_i hvn;obtain⟨j,rfl⟩:∃ j,v=x.g.n+j:=⟨v-x.g.n,by omega⟩;rw[show ((x.g.n+j:Nat):Int)-(x.g.n:Int)=(j:Int) by omega] at hm;obtain⟨b1,b2⟩:=p6 s j;split at hm;{cases hm};{cases hm;unfold upM at ht;split at ht;{obtain rfl:=vL.1 ht;exact bF oM (by decide) z oM};{split at ht;{rcases yI.1 ht with rfl|ht;{exact bF oM (by decide) oM z};{obtain rfl:=vL.1 ht;exact bF oM (by decide) z oM}};{rcases yI.1 ht with rfl|ht;{exact bF oM (by decide) z oM};{obtain rfl:=vL.1 ht;exact bF oM (by decide) oM oM}}}}}
theorem zGR {x:FQry}{s:Scp}(hx:x.small)(hq:s.q=x.q):∀ {ts:List (Int×Rat)} {l l':List (Row×Rat)},(∀ t,t∈ts->0<=t.1/\t.1<((x.g.n+x.g.us.length:Nat):Int))->(∀ t,t∈l->RoIn s t.1)->s.aboveL ts l=some l'->∀ t,t∈l'->RoIn s t.1
 |[],l,l',_,hl,h=>by cases h;exact hl
 |t::r,l,l',hv,hl,h=>by obtain⟨h1,h2⟩:=hv t xM;obtain⟨v,hv1⟩:∃ v:Nat,t.1=v:=⟨t.1.toNat,by omega⟩;unfold Scp.aboveL at h;split at h;{cases h};{rename_i more hmore;refine zGR hx hq (ts:=r) (fun u hu=>hv u (xN _ hu)) (sW (P:=fun r=>RoIn s r) ?_ hl) h;rw[hv1] at hmore;split at hmore;{cases hmore;exact zL5 hx hq oM};{exact zQA hx hq oM hmore}}
theorem zGP {x:FQry}(hx:Sq x){s:Scp}{p c j:Nat}(h:Rv x s p c){f:F}(hf:f.cd 1)(hw:f.wf ((x.g.n+j:Nat):Int))(hj:j<x.g.us.length){v:Rat×List (Row×Rat)}(hv:s.above f=some v):Fits (KB j) v.1/\(∀ t,t∈v.2->Fits (2^16) t.2)/\(∀ t,t∈v.2->RoIn s t.1)/\v.2.length<=20:=by
 have hus:=hx.s.g.us;have hn2:=hx.s.g.n2;obtain⟨l1,l2,l3,l4,l5,l6,l7⟩:=iK hx.s.g.n1 hx.s.g.n2 (by omega:j<=4);have hl:=hw.len;have hval:s.q.valid=true:=by rw[h.q];exact hx.s.valid hx.o
 have e:LV j=KB j:=by unfold LV;rw[if_pos oM]
 obtain⟨g1,g2,g3⟩:=zK0 h.q hx.s zFP h.z.lb ((hf.fl hw.cn hl).mono (by decide) oM) hw hv;refine⟨(zQC h.q hval hx.s h.z.lb oM hf hw hv).mono oM,fun t ht=>(g2 t ht).mono oM,?_,by omega⟩;unfold Scp.above at hv;obtain⟨l,hl,rfl⟩:=zHE.1 hv;exact zGR hx.s h.q (fun t ht=>by have:=hw.v t ht;omega) (fun t ht=>absurd ht (by simp)) hl
theorem zO1 {x:FQry}(hx:Sq x){path:List Dec}{p:Nat}:∀ {us:List A} {j c:Nat} {L:List Lem},us=(x.g.us.drop j).map fA->Rv x ⟨x.q,path,L⟩ p c->Rv x ⟨x.q,path,bndG x.q path us j L⟩ p (c+2*us.length)
 |[],j,c,L,_,h=>h| q::r,j,c,L,hu,h=>by
  obtain⟨g,h1,rfl,h3⟩:=zOW hu;have hlt:=(wH.1 h1).1;have hf:=hx.u g (yA h1);have hw:=hx.o.us j g h1;unfold bndG;rw[kY];have kx:=fun v hv=>zGP hx h (v:=v) hf hw hlt hv;have ky:=fun v hv=>zGP hx h (v:=v) hf.neg1 hw.scale hlt hv;have key:Rv x ⟨x.q,path,L++bndL j ((⟨x.q,path,L⟩:Scp).above g) ((⟨x.q,path,L⟩:Scp).above (g.scale (-1)))⟩ p (c+2):=by
   generalize (⟨x.q,path,L⟩:Scp).above g=X at *
   generalize (⟨x.q,path,L⟩:Scp).above (g.scale (-1))=Y at *
   cases X with
   |none =>
    cases Y with
    |none =>
     show Rv x ⟨x.q,path,L++([]++[])⟩ p (c+2);rw[uU,uU];exact h.mono (zZ _) oM
    |some w =>
     obtain⟨a1,a2,a3,a4⟩:=ky w rfl;exact (h.add (qD a1) a2 a3 a4).mono (zZ _) oM
   |some v =>
    obtain⟨b1,b2,b3,b4⟩:=kx v rfl;cases Y with
    |none=>exact (h.add b1 b2 b3 b4).mono (zZ _) oM| some w =>
     obtain⟨a1,a2,a3,a4⟩:=ky w rfl;show Rv x ⟨x.q,path,L++([⟨(j:Int),false,zJ v.1,mR v.2⟩]++[⟨(j:Int),true,zJ (-w.1),mR w.2⟩])⟩ p (c+2);rw[<-zMI];exact (h.add b1 b2 b3 b4).add (qD a1) a2 (fun t ht=>(a3 t ht).mono (zZ _) (by show L.length<=(L++[_]).length;rw[qZ];omega)) a4
  have:=zO1 hx (us:=r) (j:=j+1) h3 key;rw[kI,show c+2*(r.length+1)=c+2+2*r.length by omega];exact this
theorem zNE (raw:List UInt8):Rv (fdY raw 0).1 (ext raw) 3 8:=by have hx:=rA raw;have h:=zZK raw;unfold ext;split;{have:=zO1 hx (us:=(fdY raw 0).1.g.us.map fA) (j:=0) (by simp) h;have hus:=hx.s.g.us;exact this.mono (zZ _) (by rw[xA];omega)};{exact h.mono (zZ _) (by decide)}
theorem zI8 (raw:List UInt8):Rv (fdY raw 0).1 (dvd raw) 3 16:=by unfold dvd;split;{exact (zNE raw).run (rA raw) _};{exact (zNE raw).mono (zZ _) (by decide)}
theorem Rv.dec {x:FQry}{s:Scp}{p c:Nat}(h:Rv x s p c){d:Dec}(hd:d.x=R0)(hp:p<1000):Rv x ⟨s.q,s.path++[d],s.lems⟩ (p+1) c:=by
 have hpl:=h.pl;have hl:(s.path++[d]).length=s.path.length+1:=by rw[qZ,zJF]
 refine⟨⟨h.z.g,h.z.r,fun e he=>?_,by show (s.path++[d]).length<=_;omega,h.z.lb⟩,h.q,by show (s.path++[d]).length<=_;omega,h.len,h.l,fun i m hi y hy=>(h.r i m hi y hy).mono (by show s.path.length<=(s.path++[d]).length;omega) (zZ _)⟩;rcases vX.1 he with g|g;{exact h.z.p e g};{obtain rfl:=vL.1 g;rw[hd];exact⟨xD _,xD _⟩}
theorem Rv.opnG {x:FQry}{n:Nat}:∀ {k j p c:Nat} {s:Scp},p+k<1000->Rv x s p c->Rv x (opnG n k j s) (p+k) c
 |0,j,p,c,s,_,h=>h| k+1,j,p,c,s,hp,h=>by unfold Go.Proofs.YtaeaffgjdcigoaaGreat.opnG;rw[show p+(k+1)=p+1+k by omega];refine Rv.opnG (k:=k) oM ?_;split;{exact h.dec rfl oM};{exact h.mono oM (zZ _)}
theorem zAB (raw:List UInt8):Rv (fdY raw 0).1 (fH raw) 7 32:=by
 have hx:=rA raw;have hus:=hx.s.g.us;have h1:=(zI8 raw).run hx (xC raw%3);have hl:((dvd raw).run (xC raw%3)).q.g.us.length<=4:=by rw[h1.q];show ((fdY raw 0).1.g.us.map fA).length<=4;rw[xA];exact hus
 have h2:=(Rv.opnG (n:=xC raw) (k:=((dvd raw).run (xC raw%3)).q.g.us.length) (j:=0) oM h1).mono (p':=7) (c':=24) oM oM;unfold fH;dsimp only;split;{exact h2.run hx 1};{exact h2.mono (zZ _) (by decide)}
theorem zT5 (w:UInt8):nx .i64 (w.toNat:Int)=(w.toNat:Int):=by have:=w.toNat_lt;unfold nx;simp[IntKind.wrap,IntKind.signed,IntKind.bits];omega
theorem n8 {raw:List UInt8}{i:Nat}{w:UInt8}(h:raw[i]?=some w):xC (raw.take (i+1))=xC (raw.take i)+w.toNat:=by unfold xC;rw[tF,h];simp
theorem zAC (raw:List UInt8):∀ i,xC (raw.take i)<=255*i
 |0=>by simp[xC]| i+1=>by
  cases h:raw[i]? with
  |none =>
   (have:raw.take (i+1)=raw.take i:=by rw[tF,h];simp);rw[this]
   have:=zAC raw i;omega
  |some w =>
   rw[n8 h];have:=zAC raw i;have:=w.toNat_lt;omega
theorem sKex (raw:List UInt8)(hr:raw.length<2^38):zE 109 [u8v raw] (sv (ext raw)):=by
 refine sF Tryz.f109 ?_;have c1:=zQ4 raw hr;have c2:=zVI raw;have he:ext raw=if 0<xC raw%3 then (fdS raw).bounded else fdS raw:=rfl
 have hsd:fdS raw=⟨(fdY raw 0).1.q,(fdS raw).path,[]⟩:=rfl;have hle:=zAC raw;have hst:=fun i w h=>n8 (raw:=raw) (i:=i) (w:=w) h;obtain⟨E,hE⟩:∃ E,ext raw=E:=⟨_,rfl⟩;rw[hE] at he ⊢;generalize (fdS raw).bounded=Bd at *
 generalize (fdS raw).path=path at *
 rw[hsd] at c1 c2 he;generalize (fdY raw 0).1.q=Q at *
 clear hsd hE;obtain⟨⟨n,us,os⟩,⟨lo,hi',rows⟩,⟨ts,c⟩⟩:=Q;have hfull:raw.take raw.length=raw:=v9;obtain⟨S,hS⟩:∃ S:Nat->Nat,∀ i,S i=xC (raw.take i):=⟨_,fun _=>rfl⟩;have hS0:S 0=0:=by rw[hS];rfl
 have hSl:xC raw=S raw.length:=by rw[hS,hfull]
 rw[hSl] at he;simp only[<-hS] at hle hst;clear hS hSl hfull;cbv;refine cA c1 ?_;cbv;refine z3 (σ:=Nat) (fun i=>⟨[(0,u8v raw),(2,.ptr 2 0),(3,.ptr 3 0),(4,.int .i64 (fun _=>(S i:Int))),(5,.int .i64 (fun _=>(i:Int)))],
   [(2,.box [.int .i64 (fun _=>0),.nil,.nil,.nil,.nil,.nil,.nil,.ff,.nil,.nil,.nil,.nil]),(3,.box [.int .i64 (fun _=>n),alv us,alv os,rlv lo,rlv hi',alv rows,tsv ts,.bool (fun _=>c.neg),nat c.num,nat c.den,dlv path,.nil])]⟩)
  (fun i=>i<=raw.length) (fun i=>raw.length-i) 0 (xD _) (.le (by cbv;repeat' first|exact trivial|exact lR|exact zC (by rw[hS0];rfl)|exact zC om|apply And.intro) okZ rfl) ?_
 intro i hi;cbv;refine zG (fun h=>?_) (fun h=>?_)
 ·(have hlt:i<raw.length:=by rw[zA] at h;(try dsimp only [zF] at *);omega);obtain⟨w,hw⟩:=zT hlt
  have e:=hst i w hw;have e2:=hle i;have e3:=hle (i+1);have hw8:=w.toNat_lt;have e4:=zT5 w;clear hst hle c1 c2 he;cbv;refine yX hw eK eJ ?_;cbv;exact⟨zD (by rw[e4];(try dsimp only [zF] at *);omega) (by rw[e4];(try dsimp only [zF] at *);omega),zD om om,i+1,(show i+1<=_ by omega),(show raw.length-(i+1)<raw.length-i by omega),.le (by cbv;repeat' first|exact trivial|exact lR|exact zC (by rw[e4,e];(try dsimp only [zF] at *);omega)|exact zC om|apply And.intro) okZ rfl⟩
 ·(have hi':i=raw.length:=by rw[zA] at h;(try dsimp only [zF] at *);omega);subst hi'
  have hm:irem ((S raw.length:Nat):Int) 3=((S raw.length%3:Nat):Int):=uN (b:=3);clear hst hle;generalize S raw.length=M at *
  cbv;refine⟨uA om,?_⟩;cbv;refine zG (fun g=>?_) (fun g=>?_)
  ·rw[if_pos om] at he;subst he;cbv;refine cA c2 ?_;cbv
   (refine rC ?_;cbv)
   exact okA
  ·rw[if_neg om] at he;subst he;cbv
   (refine rC ?_;cbv)
   exact okA
end Go.Proofs.YtaeaffgjdcigoaaGreat
