/- A part of the proof: KpE, KpG, KpH, KpI. -/
import Derived.Test.YtaeaffgjdcigoaaGreatC33
import Derived.Test.YtaeaffgjdcigoaaGreatC28
import Derived.Test.YtaeaffgjdcigoaaGreatC35
import Derived.Test.YtaeaffgjdcigoaaGreatC36
set_option linter.all false
namespace Go.Proofs.YtaeaffgjdcigoaaGreat
open Go
def Ov (D N:Nat) (q:Rat):Prop:=∃ z:Int,q*((D:Int):Rat)=(z:Rat)/\z.natAbs<B^N
theorem Ov.mono {D N M:Nat}{q:Rat}(h:Ov D N q)(hm:N<=M):Ov D M q:=by obtain⟨z,h1,h2⟩:=h;exact⟨z,h1,uI h2 (dE w5 hm)⟩
theorem Ov.zero {D N:Nat}:Ov D N 0:=⟨0,by rw[Rat.zero_mul];rfl,Nat.pow_pos w5⟩
theorem Ov.add {D N:Nat}{a b:Rat}(ha:Ov D N a)(hb:Ov D N b):Ov D (N+1) (a+b):=by obtain⟨y,h1,h2⟩:=ha;obtain⟨z,h3,h4⟩:=hb;refine⟨y+z,by rw[Rat.add_mul,h1,h3,Rat.intCast_add],?_⟩;have h5:B^(N+1)=B^N*B:=uG _ _;have h6:B^N*2<=B^N*B:=wG _ (by decide);have:=Int.natAbs_add_le y z;omega
theorem Ov.mul {D E N M:Nat}{a b:Rat}(ha:Ov D N a)(hb:Ov E M b):Ov (D*E) (N+M) (a*b):=by obtain⟨y,h1,h2⟩:=ha;obtain⟨z,h3,h4⟩:=hb;refine⟨y*z,?_,by rw[p9];exact x6 h2 h4⟩;rw[Int.natCast_mul,m0,m0,<-h1,<-h3];grind
theorem Ov.neg {D N:Nat}{a:Rat}(ha:Ov D N a):Ov D N (-a):=by obtain⟨y,h1,h2⟩:=ha;exact⟨-y,by rw[Rat.intCast_neg,<-h1];grind,by rw[Int.natAbs_neg];exact h2⟩
theorem Ov.up {D E N M:Nat}{q:Rat}(h:Ov D N q)(hE:E<B^M):Ov (D*E) (N+M) q:=by obtain⟨z,h1,h2⟩:=h;refine⟨z*E,?_,by rw[p9,iX];exact x6 h2 hE⟩;rw[Int.natCast_mul,m0,m0,<-h1];grind
theorem zT3 (q:Rat):q*((q.den:Int):Rat)=(q.num:Rat):=by
 have h:q=mkRat q.num q.den:=(Rat.mkRat_self q).symm;have h0:((q.den:Int):Rat)≠0:=fun e=>q.den_nz (by have:=Rat.intCast_inj.1 (e.trans (by rfl:(0:Rat)=((0:Int):Rat)));omega)
 conv=>lhs;lhs;rw[h,Rat.mkRat_eq_div]
 exact Rat.div_mul_cancel h0
theorem Fits.ov {k:Nat}{q:Rat}(h:Fits k q):Ov q.den k q:=⟨q.num,zT3 q,h.num⟩
theorem Ov.fits {D N:Nat}{q:Rat}(h0:0<D)(hD:D<B^N)(h:Ov D N q):Fits N q:=by
 obtain⟨z,h1,h2⟩:=h;have hz:((D:Int):Rat)≠0:=fun e=>by have:=Rat.intCast_inj.1 (e.trans (by rfl:(0:Rat)=((0:Int):Rat)));omega
 have e:q=mkRat z D:=by rw[Rat.mkRat_eq_div];show q=(z:Rat)/((D:Int):Rat);rw[<-h1,Rat.mul_div_cancel hz]
 rw[e];exact aZ h2 hD oM
theorem zS1 {e y:Int}{N:Nat}{q:Rat}(h:q*(e:Rat)=(y:Rat))(hy:y.natAbs<B^N):Ov e.natAbs N q:=by
 rcases Int.natAbs_eq e with g|g;{exact⟨y,by rw[<-g];exact h,hy⟩}
 ·(refine⟨-y,?_,by rw[Int.natAbs_neg];exact hy⟩;have g2:((e.natAbs:Int))=-e:=by omega);rw[g2,Rat.intCast_neg,Rat.intCast_neg,<-h]
  grind
def F.cd (f:F) (N:Nat):Prop:=∃ D:Nat,0<D/\D<B^N/\(∀ w,Ov D N (co f.ts w))/\Ov D N f.c
theorem F.cd.mono {f:F}{N M:Nat}(h:f.cd N)(hm:N<=M):f.cd M:=by obtain⟨D,h0,h1,h2,h3⟩:=h;exact⟨D,h0,uI h1 (dE w5 hm),fun w=>(h2 w).mono hm,h3.mono hm⟩
theorem F.cd.cof {f:F}{N:Nat}(h:f.cd N)(w:Int):Fits N (co f.ts w):=by obtain⟨D,h0,h1,h2,h3⟩:=h;exact (h2 w).fits h0 h1
theorem F.cd.fl {f:F}{N n:Nat}(h:f.cd N)(hc:Cn f.ts)(hl:f.ts.length<=n):f.fl N n:=by refine⟨fun t ht=>?_,?_,hl⟩;{have:=h.cof t.1;rw[hc.co_mem ht] at this;exact this};{obtain⟨D,h0,h1,h2,h3⟩:=h;exact h3.fits h0 h1}
theorem F.cd.pos {f:F}{N:Nat}(h:f.cd N):1<=N:=by
 obtain⟨D,h0,h1,h2,h3⟩:=h;cases N with
 |zero=>rw[zLB] at h1;omega| succ n=>omega
theorem zTM {hi:Int}:∀ {l:List (Int×Rat)} {lo:Int},Cn l->(∀ t,t∈l->lo<=t.1/\t.1<hi)->lo<=hi->(l.length:Int)<=hi-lo
 |[],lo,_,_,h=>by rw[sZ];omega| t::r,lo,hc,hv,h=>by obtain⟨h1,h2⟩:=hv t xM;have:=zTM (hi:=hi) (l:=r) (lo:=t.1+1) hc.tail (fun u hu=>by have g1:=hc.lt u hu;have g2:=hv u (xN _ hu);omega) oM;rw[kI];omega
theorem F.wf.len {f:F}{n:Nat}(h:f.wf (n:Int)):f.ts.length<=n:=by have:=zTM h.cn h.v (by omega:(0:Int)<=(n:Int));omega
theorem F.cd.subst {f g:F}{v:Int}{N M:Nat}(hc:Cn f.ts)(hf:f.cd N)(hg:g.cd M):(f.subst v g).cd (N+M+1):=by
 obtain⟨D,d0,d1,d2,d3⟩:=hf;obtain⟨E,e0,e1,e2,e3⟩:=hg;refine⟨D*E,zB5 d0 e0,uI (x6 d1 e1) (dE w5 oM),fun w=>?_,?_⟩
 ·(have h2:Ov (D*E) (N+M) (co g.ts w*co f.ts v):=by rw[Rat.mul_comm];exact (d2 v).mul (e2 w));unfold F.subst
  rw[zFM,cZ];refine Ov.add ?_ h2;show Ov _ _ (co (xF v _ false f.ts) w);rw[o6 w hc];split;{rename_i e;rw[<-e,show co f.ts v+-(co f.ts v)=0 by grind];exact Ov.zero};{rw[iV];exact (d2 w).up e1}
 {show Ov _ _ (f.c+(0+g.c*co f.ts v)*1);rw[Rat.zero_add,Rat.mul_one];exact (d3.up e1).add (by rw[Rat.mul_comm];exact (d2 v).mul e3)}
theorem zQX {f g:F}{v:Int}(hc:Cn f.ts)(w:Int):co (f.subst v g).ts w=(if v=w then 0 else co f.ts w)+co g.ts w*co f.ts v:=by unfold F.subst;rw[zFM,cZ];show co (xF v _ false f.ts) w+_=_;rw[o6 w hc];split;{rename_i e;rw[<-e];grind};{grind}
theorem zYY {S:Nat}{lo hi:Rat}(hl:Fits S lo)(hh:Fits S hi)(h:hi-lo≠0):∃ E:Nat,0<E/\E<B^(2*S+1)/\Ov E (2*S) (hi/(hi-lo))/\Ov E (2*S) (-(lo*hi)/(hi-lo)):=by
 have k1:=zT3 hi;have k2:=zT3 lo;have e2:2*S=S+S:=by omega
 have b1:=x6 hh.num hl.den;have b2:=x6 hl.num hh.den;have b3:=x6 hl.num hh.num;rw[<-e2] at b1 b2 b3;obtain⟨e,he⟩:∃ e:Int,e=hi.num*lo.den-lo.num*hi.den:=⟨_,rfl⟩;have k3:(hi-lo)*(((hi.den:Int):Rat)*((lo.den:Int):Rat))=(e:Rat):=by rw[he,Rat.intCast_sub,m0,m0,<-k1,<-k2];grind
 have k5:hi/(hi-lo)*(e:Rat)=((hi.num*lo.den:Int):Rat):=by rw[<-k3,<-Rat.mul_assoc,Rat.div_mul_cancel h,m0,<-k1];grind
 have k6:-(lo*hi)/(hi-lo)*(e:Rat)=((-(lo.num*hi.num):Int):Rat):=by rw[<-k3,<-Rat.mul_assoc,Rat.div_mul_cancel h,Rat.intCast_neg,m0,<-k1,<-k2];grind
 have e0:e≠0:=fun e0=>by rw[e0] at k3;have z1:((hi.den:Int):Rat)≠0:=fun e=>hi.den_nz (by have:=Rat.intCast_inj.1 (e.trans (by rfl:(0:Rat)=((0:Int):Rat)));omega);have z2:((lo.den:Int):Rat)≠0:=fun e=>lo.den_nz (by have:=Rat.intCast_inj.1 (e.trans (by rfl:(0:Rat)=((0:Int):Rat)));omega);rcases Rat.mul_eq_zero.1 (k3.trans (by rfl:((0:Int):Rat)=0)) with g|g;{exact h g};{exact (Rat.mul_eq_zero.1 g).elim z1 z2}
 refine⟨e.natAbs,by omega,?_,zS1 k5 (by rw[p9,iX];exact b1),zS1 k6 (by rw[Int.natAbs_neg,p9];exact b3)⟩;have h5:B^(2*S+1)=B^(2*S)*B:=uG _ _;have h6:B^(2*S)*2<=B^(2*S)*B:=wG _ (by decide);have h7:e.natAbs<=hi.num.natAbs*lo.den+lo.num.natAbs*hi.den:=by rw[he];refine vD (Int.natAbs_sub_le _ _) ?_;rw[p9,p9,iX,iX];exact zZ _
 omega
theorem yAW {p:F}{lo hi:Rat}{P S:Nat}(hp:p.cd P)(hl:Fits S lo)(hh:Fits S hi)(h:hi-lo≠0):((p.scale (hi/(hi-lo))).add (F.num (-(lo*hi)/(hi-lo)))).cd (P+2*S+1):=by obtain⟨D,d0,d1,d2,d3⟩:=hp;obtain⟨E,e0,e1,e2,e3⟩:=zYY hl hh h;refine⟨D*E,zB5 d0 e0,?_,fun w=>?_,?_⟩;{have:=x6 d1 e1;exact this};{rw[zFM,iS,cZ,iV];exact ((d2 w).mul e2).mono oM};{show Ov _ _ ((0+p.c*_)+(-(lo*hi)/(hi-lo))*1);rw[Rat.zero_add,Rat.mul_one];have h2:=e3.up d1;rw[qY] at h2;exact (d3.mul e2).add (h2.mono oM)}
theorem zCK {c:Rat}{N k:Nat}(hc:Fits N c):∀ {b a:List (Row×Rat)} {A:Nat},(∀ t,t∈b->Fits k t.2)->(∀ t,t∈a->Fits A t.2)->∀ t,t∈xT a b c->Fits (A+(k+N+1)*b.length) t.2
 |[],a,A,_,ha,t,ht=>by rw[sZ];exact ha t ht| x::r,a,A,hb,ha,t,ht=>by have h1:=oC (r:=x.1) (y6 (hb x xM) hc) ha;have:=zCK hc (b:=r) (a:=plMq a x.1 (x.2*c)) (fun u hu=>hb u (xN _ hu)) h1 t ht;refine this.mono ?_;rw[kI,qH];omega
structure Pays (s:Scp) (N hi:Nat) (G H:Nat->Nat):Prop where
 m:∀ v,v<hi->G v<=G (v+1)/\H v<=H (v+1)
 b:∀ v:Nat,v<hi->∀ up b,s.ofB v up=some b->∃ m k,Fits m b.1.q/\(∀ t,t∈b.2->Fits k t.2)/\b.2.length<=2/\G v+m+1<=G (v+1)/\H v+(k+N+1)*b.2.length<=H (v+1)
theorem nO {G : Nat → Nat} {hi : Nat} (h : ∀ v, v < hi → G v ≤ G (v + 1)) {a b : Nat} (hab : a ≤ b) (hb : b ≤ hi) : G a ≤ G b := by
  induction b with
  | zero => have : a = 0 := by omega
            rw [this]; exact zZ _
  | succ b ih =>
    by_cases e : a = b + 1
    · rw [e]; exact zZ _
    · exact vD (ih oM oM) (h b oM)
theorem zOA {D E N M e m:Nat}{a c b:Rat}(ha:Ov (D*E) M a)(hc:Ov D N c)(hb:Fits m b)(h1:E<B^e)(h2:e+N<=M):Ov (D*(E*b.den)) (M+m+1) (a+c*b):=by
 have n1:Ov (D*(E*b.den)) (M+m) a:=by have:=ha.up hb.den;rw[jX] at this;exact this
 have n2:Ov (D*(E*b.den)) (M+m) (c*b):=by have:=(hc.mul hb.ov).up h1;rw[jX,qY _ E] at this;exact this.mono oM
 exact n1.add n2
theorem zOY {s:Scp}{D N hi:Nat}{G H:Nat->Nat}(hG:Pays s N hi G H):∀ {ts:List (Int×Rat)} {a a':Rat} {l l':List (Row×Rat)} {lo M e E A:Nat},Cn ts->(∀ t,t∈ts->(lo:Int)<=t.1/\t.1<hi)->lo<=hi->(∀ t,t∈ts->Ov D N t.2/\Fits N t.2)->0<E->E<B^e->e+N<=M->Ov (D*E) M a->(∀ u,u∈l->Fits A u.2)->s.boxL ts a l=some (a',l') ->∃ M' e' E' A',0<E'/\E'<B^e'/\e'+N<=M'/\Ov (D*E') M' a'/\M'+G lo<=M+G hi/\A'+H lo<=A+H hi/\(∀ u,u∈l'->Fits A' u.2)/\l'.length<=l.length+2*ts.length
 |[],a,a',l,l',lo,M,e,E,A,_,_,hlh,_,h0,h1,h2,h3,h4,h=>by cases h;have:=nO (fun v hv=>(hG.m v hv).1) hlh (zZ _);have:=nO (fun v hv=>(hG.m v hv).2) hlh (zZ _);exact⟨M,e,E,A,h0,h1,h2,h3,by omega,by omega,h4,by simp⟩
 |t::r,a,a',l,l',lo,M,e,E,A,hc,hv,hlh,hf,h0,h1,h2,h3,h4,h=>by
  obtain⟨g1,g2⟩:=hv t xM;obtain⟨v,hv1⟩:∃ v:Nat,t.1=v:=⟨t.1.toNat,by omega⟩;unfold Scp.boxL at h;rw[hv1] at h;cases hb:s.ofB v (decide (z4 t.2<0)) with
  |none=>rw[hb] at h;cases h
  |some b =>
   rw[hb] at h;obtain⟨m,k,b1,b2,b3,b4,b5⟩:=hG.b v oM _ b hb;obtain⟨c1,c2⟩:=hf t xM;have hl2:=nP (vK t.2) b.2 l;obtain⟨M',e',E',A',k1,k2,k3,k4,k5,k6,k7,k8⟩:=zOY hG (lo:=v+1) (M:=M+m+1) (e:=e+m) (A:=A+(k+N+1)*b.2.length) hc.tail
    (fun u hu=>by have:=hc.lt u hu;have:=(hv u (xN _ hu)).2;omega) oM (fun u hu=>hf u (xN _ hu))
    (zB5 h0 b.1.q.den_pos) (x6 h1 b1.den) oM (zOA h3 c1 b1 h1 h2) (zCK (jU c2) b2 h4) h
   have z1:=nO (fun v hv=>(hG.m v hv).1) (a:=lo) (b:=v) oM oM;have z2:=nO (fun v hv=>(hG.m v hv).2) (a:=lo) (b:=v) oM oM;refine⟨M',e',E',A',k1,k2,k3,k4,by omega,by omega,k7,?_⟩;rw[kI];omega
theorem zNG {s:Scp}{N hi:Nat}{G H:Nat->Nat}(hG:Pays s N hi G H){f:F}(hf:f.cd N)(hw:f.wf (hi:Int))(i:Nat){a:Rat}{l:List (Row×Rat)}(h:s.boxL (f.ts.take i) f.c []=some (a,l)):Fits (N+1+G hi) a/\(∀ t,t∈l->Fits (H hi) t.2)/\l.length<=2*hi:=by
 have hfl:=hf.fl hw.cn (zZ _);obtain⟨D,d0,d1,d2,d3⟩:=hf;obtain⟨M',e',E',A',k1,k2,k3,k4,k5,k6,k7,k8⟩:=zOY (D:=D) (lo:=0) (M:=N+1) (e:=1) (E:=1) (A:=0) hG (hw.cn.take i) (fun t ht=>by have:=hw.v t (mZ ht);omega) (xD _)
  (fun t ht=>by have ht:=mZ ht;have:=d2 t.1;rw[hw.cn.co_mem ht] at this;exact⟨this,hfl.t t ht⟩) Nat.one_pos (by decide) oM (by rw[pD];exact d3.mono oM) (fun u hu=>absurd hu (by simp)) h
 have hl:=hw.len;have hl2:(f.ts.take i).length<=f.ts.length:=by rw[j5];omega
 refine⟨k4.fits (zB5 d0 k1) ?_ |>.mono oM,fun t ht=>(k7 t ht).mono oM,?_⟩;{exact uI (x6 d1 k2) (dE w5 oM)};{rw[sZ] at k8;omega}
theorem zTF (raw:List UInt8)(a:Nat):Ov 4 1 (fdQ raw a).1:=by
 have h1:=kX (raw:=raw) (n:=9) (a:=a) (by decide);have key:∀ m k:Nat,m<9->∃ z:Int,iO ((m:Int)-4) (dnm k)*(((4:Nat):Int):Rat)=(z:Rat)/\z.natAbs<B^1:=fun m k hm=>by
  (have e:∀ m:Fin 9,∀ k:Fin 4,∃ z:Fin 33,iO ((m.val:Int)-4) (dnm k.val)*(((4:Nat):Int):Rat)=(((z.val:Int)-16:Int):Rat):=by decide +kernel);have hk:dnm k=dnm (if k<4 then k else 3):=by split;{rfl};{unfold dnm;split <;> first|omega|rfl}
  obtain⟨z,hz⟩:=e ⟨m,hm⟩ ⟨if k<4 then k else 3,by split <;> omega⟩;refine⟨_,by rw[hk];exact hz,?_⟩;have:=z.isLt;have hB:B^1=4294967296:=rfl;omega
 exact key _ _ h1
theorem zH4 (raw:List UInt8):∀ (n v:Nat) (f:F) (a:Nat),(∀ w,Ov 4 1 (co f.ts w))->Ov 4 1 f.c->(∀ w,(v:Int)<=w->co f.ts w=0)->(∀ w,Ov 4 1 (co (tK raw n v f a).1.ts w))/\Ov 4 1 (tK raw n v f a).1.c
 |0,v,f,a,h1,h2,h3=>⟨h1,h2⟩| n+1,v,f,a,h1,h2,h3=>by
  unfold tK;split
  ·(have e:∀ w,co (f.add ((F.var v).scale (fdQ raw (na raw a)).1)).ts w=co f.ts w+dlt v w*(fdQ raw (na raw a)).1:=fun w=>by rw[zFM,cZ,iQ]);refine zH4 raw n (v+1) _ _ (fun w=>?_) ?_ (fun w hw=>?_)
   {rw[e];unfold dlt;split;{rename_i g;rw[h3 w oM,Rat.zero_add,zB8];exact zTF raw _};{rw[Rat.zero_mul,iV];exact h1 w}};{show Ov 4 1 (f.c+(0+(0:Rat)*(fdQ raw (na raw a)).1)*1);rw[Rat.zero_mul,iV,Rat.zero_mul,iV];exact h2};{rw[e,h3 w oM];unfold dlt;rw[if_neg oM,Rat.zero_mul,iV]}
  {exact zH4 raw n (v+1) f _ h1 h2 (fun w hw=>h3 w oM)}
theorem zND (raw:List UInt8)(n a:Nat):(fdF raw n a).1.cd 1:=by obtain⟨h1,h2⟩:=zH4 raw n 0 (F.num (fdQ raw a).1) (fdQ raw a).2 (fun w=>by rw[iS];exact Ov.zero) (zTF raw a) (fun w _=>iS _ w);exact⟨4,by decide,by decide,h1,h2⟩
theorem zTG {raw:List UInt8}{d:Nat}:∀ {n v a:Nat} {f:F},f∈(fdL raw d n v a).1->f.cd 1
 |0,v,a,f,h=>absurd h (by simp[fdL])| n+1,v,a,f,h=>by rcases yI.1 h with rfl|h;{exact zND raw v a};{exact zTG (n:=n) h}
theorem F.cd.neg1 {f:F}{N:Nat}(h:f.cd N):(f.scale (-1)).cd N:=by obtain⟨D,h0,h1,h2,h3⟩:=h;refine⟨D,h0,h1,fun w=>?_,?_⟩;{rw[cZ,show co f.ts w * -1=-(co f.ts w) by grind];exact (h2 w).neg};{show Ov D N (0+f.c * -1);rw[show 0+f.c * -1=-f.c by grind];exact h3.neg}
structure RoIn (s:Scp) (r:Row):Prop where
 i:0<=r.i/\r.i<1024
 p:r.k=4->r.i<s.path.length
 lo:0<=r.lo/\r.lo<=s.lems.length
 hi:0<=r.hi/\r.hi<=s.lems.length
def KB:Nat->Nat
 |0=>60| 1=>184| 2=>556| _=>1672
theorem zFP (i:Nat):1<=KB i:=by unfold KB;split <;> decide
theorem zUF (i:Nat):KB i<=1672:=by unfold KB;split <;> decide
structure Isz (x:FQry) (s:Scp):Prop where
 g:s.q.g=x.q.g
 r:s.q.r=x.q.r
 p:∀ d,d∈s.path->d.x.sz 3
 pl:s.path.length<=1000
 lb:LB KB s.lems
theorem p6 (s:Scp)(j:Int):(s.best j).1<=s.lems.length/\(s.best j).2<=s.lems.length:=by constructor;{by_cases h:(s.best j).1=0;{omega};{obtain⟨m,hm,_⟩:=dU (s:=s) (unit:=j) (.inl rfl) h;have:=(wH.1 hm).1;omega}};{by_cases h:(s.best j).2=0;{omega};{obtain⟨m,hm,_⟩:=dU (s:=s) (unit:=j) (.inr rfl) h;have:=(wH.1 hm).1;omega}}
theorem bF {s:Scp}{k lo hi:Int}{j:Nat}(hj:j<1024)(hk:k≠4)(h1:0<=lo/\lo<=s.lems.length)(h2:0<=hi/\hi<=s.lems.length):RoIn s ⟨k,j,lo,hi⟩:=⟨by show 0<=(j:Int)/\(j:Int)<1024;omega,fun h=>absurd h hk,h1,h2⟩
theorem zON {q:Qry}{up:Bool}{i:Int}{P:Bd->Prop}(n:Nat):∀ {l:List Dec} {k:Nat} {b:Bd},k+l.length<=n->P b->(∀ d,d∈l->∀ k:Nat,k<n->P (d.x,[(⟨4,k,0,0⟩,1)]))->P (inG q up i k l b)
 |[],k,b,_,h,_=>h| d::r,k,b,hn,h,hd=>by unfold inG;rw[kI] at hn;refine zON n oM ?_ (fun e he=>hd e (xN _ he));by_cases g:d.k=(if up=true then 4 else 3)/\d.i=i/\d.fits q=true/\0<(if up=true then -1 else 1)*uD d.x.q b.1.q;{rw[if_pos g];exact hd d xM k oM};{rw[if_neg g];exact h}
theorem zZD {x:FQry}{s:Scp}(hx:x.small)(h:Isz x s){i:Nat}(hi:i<x.g.n)(up:Bool):(s.inB i up).1.sz 3/\∃ r,(s.inB i up).2=[(r,1)]/\RoIn s r/\r.k<=4:=by
 have hn2:=hx.g.n2;have hpl:=h.pl;have z:(0:Int)<=0/\(0:Int)<=(s.lems.length:Int):=by omega
 have hs:∀ (g:Rat×Rat->Rat),(∀ b,b∈x.r.bs->Fits 3 (g b))->(((x.r.bs.map fun b=>zJ (g b))[((i:Int)).toNat]?).getD R0).sz 3:=fun g hg=>by
  cases hy:(x.r.bs.map fun b=>zJ (g b))[((i:Int)).toNat]? with
  |none=>exact⟨xD _,xD _⟩| some y =>
   obtain⟨b,hb,rfl⟩:=y8.1 (yA hy);exact zU (hg b hb)
 have hlo:((s.q.r.lo[((i:Int)).toNat]?).getD R0).sz 3:=by rw[h.r];exact hs Prod.fst fun b hb=>(hx.r.bf b hb).1
 have hhi:((s.q.r.hi[((i:Int)).toNat]?).getD R0).sz 3:=by rw[h.r];exact hs Prod.snd fun b hb=>(hx.r.bf b hb).2
 unfold Scp.inB;refine zON (P:=fun b=>b.1.sz 3/\∃ r,b.2=[(r,1)]/\RoIn s r/\r.k<=4) s.path.length oM ?_ (fun d hd k hk=>⟨h.p d hd,_,rfl,⟨by show 0<=(k:Int)/\(k:Int)<1024;omega,fun _=>by show (k:Int)<_;omega,z,z⟩,by show (4:Int)<=4;decide⟩);cases up;{exact⟨hlo,_,rfl,bF oM (by decide) z z,by show (1:Int)<=4;decide⟩};{exact⟨hhi,_,rfl,bF oM (by decide) z z,by show (2:Int)<=4;decide⟩}
theorem zDK {s:Scp}(h:LB KB s.lems){j:Nat}(h0:(s.best j).1≠0):Fits (KB j) (s.vLo j):=zE7 h (.inl rfl) h0
theorem zJK {s:Scp}(h:LB KB s.lems){j:Nat}(h0:(s.best j).2≠0):Fits (KB j) (s.vHi j):=zE7 h (.inr rfl) h0
theorem zS2 {s:Scp}{j:Nat}(hj:j<1024):RoIn s (s.onR j).1:=by have:=(p6 s j).1;unfold Scp.onR;split;{exact bF hj (by decide) oM oM};{exact bF hj (by decide) oM oM}
theorem zOC {s:Scp}{j:Nat}(hj:j<1024):RoIn s (s.offR j).1:=by have:=(p6 s j).2;unfold Scp.offR;split;{exact bF hj (by decide) oM oM};{exact bF hj (by decide) oM oM}
structure BdOk (s:Scp) (b:Bd) (m k n:Nat):Prop where
 sz:b.1.sz m
 c:∀ t,t∈b.2->Fits k t.2
 r:∀ t,t∈b.2->RoIn s t.1
 len:b.2.length<=n
theorem bd1 {s:Scp}{x:R}{m k:Nat}{r:Row}(hx:x.sz m)(hk:1<=k)(hr:RoIn s r):BdOk s (x,[(r,1)]) m k 2 :=
 ⟨hx,fun t ht=>by obtain rfl:=vL.1 ht;exact fits_one.mono hk,fun t ht=>by obtain rfl:=vL.1 ht;exact hr,by show 1<=2;decide⟩
theorem bd2 {s:Scp}{x:R}{m k:Nat}{r r':Row}{a b:Rat}(hx:x.sz m)(ha:Fits k a)(hb:Fits k b)(hr:RoIn s r)(hr':RoIn s r'):BdOk s (x,[(r,a),(r',b)]) m k 2 :=
 ⟨hx,fun t ht=>by
  rcases yI.1 ht with rfl|ht;{exact ha}
  ·obtain rfl:=vL.1 ht;exact hb,fun t ht=>by
  rcases yI.1 ht with rfl|ht;{exact hr}
  ·obtain rfl:=vL.1 ht;exact hr',by show 2<=2;decide⟩
theorem zFE {x:FQry}{s:Scp}(hx:x.small)(h:Isz x s){v:Nat}(hv:v<x.g.n){up:Bool}{b:Bd}(hb:s.ofB v up=some b):BdOk s b 3 1 1/\(∀ t,t∈b.2->t.2=1/\t.1.k<=4):=by
 have hn:s.q.g.n=(x.g.n:Int):=by rw[h.g];rfl
 unfold Scp.ofB at hb;rw[hn,if_pos oM] at hb;cases hb;obtain⟨g1,r,g2,g3,g4⟩:=zZD hx h hv up;rw[g2];exact⟨⟨g1,fun t ht=>by rw[g2] at ht;obtain rfl:=vL.1 ht;exact fits_one,fun t ht=>by rw[g2] at ht;obtain rfl:=vL.1 ht;exact g3,by rw[g2];exact zZ _⟩,fun t ht=>by obtain rfl:=vL.1 ht;exact⟨rfl,g4⟩⟩
theorem zM6 {x:FQry}{s:Scp}(h:Isz x s){j:Nat}(hj:j<1024){up:Bool}{b:Bd}(hb:s.ofB ((x.g.n+j:Nat):Int) up=some b):BdOk s b (KB j) (3*KB j+3) 2:=by
 have hn:s.q.g.n=(x.g.n:Int):=by rw[h.g];rfl
 have kp:=zFP j;have z0:R0.sz (KB j):=⟨xD _,xD _⟩;have hlb:=h.lb;have b1:=(p6 s j).1;have b2:=(p6 s j).2;have z:(0:Int)<=0/\(0:Int)<=(s.lems.length:Int):=by omega
 unfold Scp.ofB at hb;rw[hn,if_neg oM,show ((x.g.n+j:Nat):Int)-(x.g.n:Int)=(j:Int) by omega] at hb;split at hb
 ·unfold Scp.moB at hb;split at hb;{cases hb;exact bd1 z0 oM (zOC hj)};split at hb;{cases hb};rename_i hc;have f2:=zJK hlb (j:=j) (fun e=>hc (.inl e));split at hb;{cases hb;exact bd2 (zU f2) (fits_one.mono oM) (fits_one.mono oM) (zS2 hj) (bF hj (by decide) z oM)}
  ·(rename_i hon;have f1:=zDK hlb (j:=j) (fun e=>hc (.inr ⟨by cases hq:(s.onR j).2 <;> simp_all,e⟩));have fi:Fits (2*KB j+2) (1/(s.vHi j-s.vLo j)):=by rw[f9];exact (y6 fits_one (cT (uC f2 f1))).mono oM);cases hb
   exact bd2 (zU f2) ((y6 fi f2).mono oM) (fi.mono oM) (bF hj (by decide) z oM) (bF hj (by decide) oM oM)
 {unfold Scp.leB at hb;split at hb;{cases hb;exact bd1 z0 oM (bF hj (by decide) z z)};{rename_i hc;have f1:=zDK hlb (j:=j) (fun e=>hc (.inl e));cases hb;exact bd2 (zU f1) (fits_one.mono oM) (fits_one.mono oM) (bF hj (by decide) z z) (bF hj (by decide) oM z)}}
def pgv (n:Nat):Nat->Nat
 |0=>0| v+1=>pgv n v+(if v<n then 4 else KB (v-n)+1)
def pgm (N n:Nat):Nat->Nat
 |0=>0| v+1=>pgm N n v+(if v<n then N+2 else 6*KB (v-n)+2*N+8)
theorem zSZ {n v:Nat}(h:v<n):pgv n (v+1)=pgv n v+4:=by show pgv n v+(if v<n then 4 else _)=_;rw[if_pos h]
theorem zS0 {N n v:Nat}(h:v<n):pgm N n (v+1)=pgm N n v+(N+2):=by show pgm N n v+(if v<n then N+2 else _)=_;rw[if_pos h]
theorem zY0 (n j:Nat):pgv n (n+j+1)=pgv n (n+j)+(KB j+1):=by show pgv n (n+j)+(if n+j<n then 4 else _)=_;rw[if_neg oM,show n+j-n=j by omega]
theorem zY3 (N n j:Nat):pgm N n (n+j+1)=pgm N n (n+j)+(6*KB j+2*N+8):=by show pgm N n (n+j)+(if n+j<n then N+2 else _)=_;rw[if_neg oM,show n+j-n=j by omega]
theorem zM4 (n v:Nat):pgv n v<=pgv n (v+1):=by show _<=pgv n v+_;omega
theorem zY2 (N n v:Nat):pgm N n v<=pgm N n (v+1):=by show _<=pgm N n v+_;omega
theorem zWX (n:Nat):∀ m,m<=n->pgv n m=4*m
 |0,_=>rfl| m+1,h=>by rw[zSZ oM,zWX n m oM];omega
theorem zWY (N n:Nat):∀ m,m<=n->pgm N n m=(N+2)*m
 |0,_=>rfl| m+1,h=>by rw[zS0 oM,zWY N n m oM,Nat.mul_succ]
theorem zJZ {x:FQry}{s:Scp}(hx:x.small)(h:Isz x s)(N:Nat){hi:Nat}(hh:hi<=x.g.n+x.g.us.length):Pays s N hi (pgv x.g.n) (pgm N x.g.n):=by have hus:=hx.g.us;refine⟨fun v hv=>⟨zM4 _ _,zY2 _ _ _⟩,fun v hv up b hb=>?_⟩;by_cases hvn:v<x.g.n;{obtain⟨g,_⟩:=zFE hx h hvn hb;have e:=zSZ hvn;have e':=zS0 (N:=N) hvn;refine⟨3,1,g.sz.fits (by decide),g.c,vD g.len (by decide),by omega,?_⟩;have:=wG (1+N+1) g.len;omega};{obtain⟨j,rfl⟩:∃ j,v=x.g.n+j:=⟨v-x.g.n,by omega⟩;have g:=zM6 h (j:=j) oM hb;have e:=zY0 x.g.n j;have e':=zY3 N x.g.n j;refine⟨KB j,3*KB j+3,g.sz.fits (zFP j),g.c,g.len,by omega,?_⟩;have:=wG (3*KB j+3+N+1) g.len;omega}
theorem zF3 {l:List (Row×Rat)}{r:Row}{q:Rat}{P:Row->Prop}(hl:∀ t,t∈l->P t.1)(hr:P r):∀ t,t∈plMq l r q->P t.1:=fun t ht=>by unfold plMq at ht;split at ht;{exact hl t ht};{rcases zHU ht with e|⟨u,hu,e⟩;{rw[e];exact hr};{rw[<-e];exact hl u hu}}
theorem sW {c:Rat}{P:Row->Prop}:∀ {b a:List (Row×Rat)},(∀ t,t∈b->P t.1)->(∀ t,t∈a->P t.1)->∀ t,t∈xT a b c->P t.1
 |[],a,_,ha,t,ht=>ha t ht| x::r,a,hb,ha,t,ht=>sW (b:=r) (a:=plMq a x.1 (x.2*c)) (fun u hu=>hb u (xN _ hu)) (zF3 ha (hb x xM)) t ht
theorem zEO {s:Scp}{P:Row->Prop}:∀ {ts:List (Int×Rat)} {a a':Rat} {l l':List (Row×Rat)},(∀ t,t∈ts->∀ up b,s.ofB t.1 up=some b->∀ u,u∈b.2->P u.1)->(∀ u,u∈l->P u.1)->s.boxL ts a l=some (a',l')->∀ u,u∈l'->P u.1
 |[],a,a',l,l',_,hl,h=>by cases h;exact hl
 |t::r,a,a',l,l',hb,hl,h=>by
  unfold Scp.boxL at h;cases hx:s.ofB t.1 (decide (z4 t.2<0)) with
  |none=>rw[hx] at h;cases h
  |some b =>
   rw[hx] at h;exact zEO (ts:=r) (fun u hu=>hb u (xN _ hu)) (sW (hb t xM _ b hx) hl) h
theorem zOZ {s:Scp}:∀ {ts:List (Int×Rat)} {a a':Rat} {l l':List (Row×Rat)},(∀ t,t∈ts->∀ up b,s.ofB t.1 up=some b->∀ u,u∈b.2->0<=u.2)->Rs l->s.boxL ts a l=some (a',l')->Rs l'
 |[],a,a',l,l',_,hl,h=>by cases h;exact hl
 |t::r,a,a',l,l',hb,hl,h=>by
  unfold Scp.boxL at h;cases hx:s.ofB t.1 (decide (z4 t.2<0)) with
  |none=>rw[hx] at h;cases h
  |some b =>
   rw[hx] at h;exact zOZ (ts:=r) (fun u hu=>hb u (xN _ hu)) (zER (zO5 _) (hb t xM _ b hx) hl) h
theorem zGM {s:Scp}:∀ {ts:List (Int×Rat)} {a:Rat} {l:List (Row×Rat)},(∀ t,t∈ts->∀ up,(s.ofB t.1 up).isSome=true)->(s.boxL ts a l).isSome=true
 |[],a,l,_=>rfl| t::r,a,l,hb=>by
  unfold Scp.boxL;have:=hb t xM (decide (z4 t.2<0));cases hx:s.ofB t.1 (decide (z4 t.2<0)) with
  |none=>rw[hx] at this;cases this
  |some b=>exact zGM (ts:=r) (fun u hu=>hb u (xN _ hu))
theorem zRC {a b:Row}(h:vS a b=true):a≠b:=fun e=>zYU (by rw[e] at h;exact h)
theorem zN7 {r:Row}{q:Rat}:∀ {l:List (Row×Rat)},(∀ t,t∈l->t.1≠r)->∀ t,t∈plM r q l->t∈l\/t=(r,q)
 |[],_,t,h=>.inr (by simpa[plM] using h)| a::rest,hl,t,h=>by unfold plM at h;split at h;{rcases yI.1 h with rfl|h;{exact .inl xM};{rcases zN7 (fun u hu=>hl u (xN _ hu)) t h with g|g;{exact .inl (xN _ g)};{exact .inr g}}};{split at h;{rename_i e;exact absurd e (hl a xM)};{rcases yI.1 h with rfl|h;{exact .inr rfl};{exact .inl h}}}
theorem zCJ {c:Rat}:∀ {b a:List (Row×Rat)},Rs b->(∀ t,t∈b->∀ u,u∈a->u.1≠t.1)->∀ t,t∈xT a b c->t∈a\/∃ u,u∈b/\t=(u.1,u.2*c)
 |[],a,_,_,t,ht=>.inl ht| x::r,a,hb,hd,t,ht=>by
  (have key:∀ u,u∈plMq a x.1 (x.2*c)->u∈a\/u=(x.1,x.2*c):=fun u hu=>by unfold plMq at hu;split at hu;{exact .inl hu};{exact zN7 (fun w hw=>hd x xM w hw) u hu});rcases zCJ (b:=r) (a:=plMq a x.1 (x.2*c)) hb.tail (fun u hu w hw=>by
   rcases key w hw with g|g;{exact hd u (xN _ hu) w g}
   ·rw[g];exact zRC (hb.lt u hu)) t ht with g|⟨u,hu,e⟩
  {rcases key t g with g|g;{exact .inl g};{exact .inr ⟨x,xM,g⟩}};{exact .inr ⟨u,xN _ hu,e⟩}
theorem zNJ {N:Nat}(h:1<=N):F.zero.cd N:=⟨1,by decide,uI (show 1<B^1 by decide) (dE w5 h),fun w=>Ov.zero,Ov.zero⟩
theorem zVP {x:FQry}{s:Scp}(h:Isz x s){j:Nat}(hj:j<1024){p:F}{c:Rat}{N:Nat}(hc:Fits N c)(hp:p.cd 1){n:Int}(hw:p.wf n){y:Row×F×Rat}(hr:s.repl p c j=some y):y.2.1.cd (2*KB j+2)/\y.2.1.wf n/\Fits (N+2*KB j+2) y.2.2/\RoIn s y.1/\5<=y.1.k:=by
 have ha:=jU hc;have hlb:=h.lb;have b1:=(p6 s j).1;have b2:=(p6 s j).2;have z:(0:Int)<=0/\(0:Int)<=(s.lems.length:Int):=by omega
 have k8:5<=(s.onR j).1.k:=by unfold Scp.onR;split <;> exact (by decide:(5:Int)<=8)
 have k10:5<=(s.offR j).1.k:=by unfold Scp.offR;split <;> exact (by decide:(5:Int)<=10)
 unfold Scp.repl at hr;split at hr;{cases hr;refine⟨hp.mono oM,hw,ha.mono oM,?_,?_⟩;{split;{exact bF hj (by decide) z z};{exact zS2 hj}};{split;{show (5:Int)<=6;decide};{exact k8}}};rename_i hon;split at hr;{cases hr;refine⟨zNJ oM,F.wf.zero0 n,ha.mono oM,?_,?_⟩;{split;{exact zOC hj};{exact bF hj (by decide) z z}};{split;{exact k10};{show (5:Int)<=5;decide}}};rename_i hoff;split at hr;{split at hr;{cases hr;exact⟨hp.mono oM,hw,ha.mono oM,bF hj (by decide) z z,by show (5:Int)<=6;decide⟩};{cases hr;exact⟨zNJ oM,F.wf.zero0 n,ha.mono oM,bF hj (by decide) z z,by show (5:Int)<=5;decide⟩}};split at hr;{cases hr};rename_i hb;have f1:=zDK hlb (j:=j) (fun e=>hb (.inl e));have f2:=zJK hlb (j:=j) (fun e=>hb (.inr e));have g1:z4 (s.vLo j)<0:=by unfold Scp.onR at hon;split at hon;{exact absurd rfl hon};{simp only[yT,decide_eq_true_eq] at hon;omega}
 have g2:0<z4 (s.vHi j):=by unfold Scp.offR at hoff;split at hoff;{exact absurd rfl hoff};{simp only[yT,decide_eq_true_eq] at hoff;omega}
 have hne:s.vHi j-s.vLo j≠0:=(eG (by unfold lY;rw[decide_eq_true g1,decide_eq_true g2];rfl)).1;cases hr;refine⟨(yAW hp f1 f2 hne).mono oM,F.wf.add hw.scale (F.wf.num _ _),?_,bF hj (by decide) oM oM,by show (5:Int)<=13;decide⟩;show Fits _ (vK c/(s.vHi j-s.vLo j));rw[f9];exact (y6 ha (cT (uC f2 f1))).mono oM
def sg:Nat->Nat
 |0=>0| i+1=>sg i+(2*KB i+4)
structure BP (x:FQry) (s:Scp) (T J i:Nat) (y:F×List (Row×Rat)):Prop where
 cd:∃ N,y.1.cd N/\N+sg (min i J)<=T
 wf:y.1.wf ((x.g.n+min i J:Nat):Int)
 l:∃ A,(∀ t,t∈y.2->Fits A t.2)/\A+min i J*T<=J*T
 len:y.2.length+min i J<=J
 rows:∀ t,t∈y.2->RoIn s t.1/\5<=t.1.k
theorem zMR {x:FQry}{s:Scp}(hq:s.q.g=x.q.g){i:Nat}{pa:A}(hp:s.q.g.us[i]?=some pa):∃ g,x.g.us[i]?=some g/\pa=fA g:=by rw[hq] at hp;have hp':(x.g.us.map fA)[i]?=some pa:=hp;rw[bR] at hp';obtain⟨g,hg,rfl⟩:=zHE.1 hp';exact⟨g,hg,rfl⟩
theorem zNK {f:F}{n:Nat}(h:f.wf ((n+1:Nat):Int))(h0:co f.ts (n:Int)=0):f.wf (n:Int):=⟨h.cn,fun t ht=>by
 obtain⟨h1,h2⟩:=h.v t ht;refine⟨h1,?_⟩;by_cases e:t.1=(n:Int);{exact absurd (by rw[<-h.cn.co_mem ht,e];exact h0) (h.cn.n t ht)}
 ·omega⟩
theorem zQW {f g:F}{n:Nat}(hf:f.wf ((n+1:Nat):Int))(hg:g.wf (n:Int)):(f.subst (n:Int) g).wf (n:Int):=by
 have h1:(f.subst (n:Int) g).wf ((n+1:Nat):Int):=by refine F.wf.add ⟨Cn.plus hf.cn,fun t ht=>?_⟩ (hg.mono oM).scale;rcases rO ht with e|⟨u,hu,e⟩;{omega};{rw[<-e];exact hf.v u hu}
 refine zNK h1 ?_;rw[zQX hf.cn,if_pos rfl,pX (l:=g.ts) (fun t ht=>by have:=(hg.v t ht).2;omega)];grind
theorem zF1 {x:FQry}{s:Scp}(hx:x.small)(hok:x.ok)(h:Isz x s)(q4:∀ f,f∈x.g.us->f.cd 1){T J i:Nat}{pa:A}(hp:s.q.g.us[i]?=some pa){y z:F×List (Row×Rat)}(hy:BP x s T J (i+1) y)(hr:s.rep1 pa.f i y=some z):BP x s T J i z:=by
 have hn:s.q.g.n=(x.g.n:Int):=by rw[h.g];rfl
 obtain⟨g,hg,rfl⟩:=zMR h.g hp;have hlt:=(wH.1 hg).1;have hus:=hx.g.us;rw[kY] at hr;obtain⟨⟨N,c1,c2⟩,w,⟨A,l1,l2⟩,len,rows⟩:=hy;unfold Scp.rep1 at hr;rw[hn,show (x.g.n:Int)+(i:Int)=((x.g.n+i:Nat):Int) by omega] at hr;by_cases hi:J<=i
 ·(have e1:min (i+1) J=J:=by omega);have e2:min i J=J:=by omega
  rw[e1] at c2 w l2 len;rw[pX (l:=y.1.ts) (fun t ht=>by have:=(w.v t ht).2;omega),if_pos (by decide)] at hr;cases hr;exact⟨⟨N,c1,by rw[e2];exact c2⟩,by rw[e2];exact w,⟨A,l1,by rw[e2];exact l2⟩,by rw[e2];exact len,rows⟩
 ·(have e1:min (i+1) J=i+1:=by omega);have e2:min i J=i:=by omega
  have e3:sg (i+1)=sg i+(2*KB i+4):=rfl;have e4:(i+1)*T=i*T+T:=Nat.succ_mul _ _;rw[e1] at c2 w l2 len;rw[e3] at c2;rw[e4] at l2;split at hr;{rename_i h0;cases hr;exact⟨⟨N,c1,by rw[e2];omega⟩,by rw[e2];exact zNK w (zT0 h0),⟨A,l1,by rw[e2];omega⟩,by rw[e2];omega,rows⟩}
  ·cases hrp:s.repl g (co y.1.ts ((x.g.n+i:Nat):Int)) i with
   |none=>rw[hrp] at hr;cases hr
   |some v =>
    rw[hrp] at hr;cases hr;obtain⟨r1,r2,r3,r4,r5⟩:=zVP h (by omega:i<1024) (c1.cof _) (q4 g (yA hg)) (hok.us i g hg) hrp;refine⟨⟨_,c1.subst w.cn r1,by rw[e2];omega⟩,by rw[e2];exact zQW w r2,⟨_,oC r3 l1,by rw[e2];omega⟩,?_,zF3 (P:=fun r=>RoIn s r/\5<=r.k) rows ⟨r4,r5⟩⟩;have:=zD7 y.2 v.1 v.2.2;rw[e2];show (plMq y.2 v.1 v.2.2).length+i<=J;omega
theorem zKW {x:FQry}{s:Scp}(hx:x.small)(hok:x.ok)(h:Isz x s)(q4:∀ f,f∈x.g.us->f.cd 1){T J:Nat}:∀ {i:Nat} {y z:F×List (Row×Rat)},BP x s T J i y->s.backG i y=some z->BP x s T J 0 z
 |0,y,z,hy,hz=>by cases hz;exact hy
 |i+1,y,z,hy,hz=>by
  unfold Scp.backG at hz;cases hp:s.q.g.us[i]? with
  |none=>rw[hp] at hz;cases hz
  |some p =>
   rw[hp] at hz;cases hr:s.rep1 p.f i y with
   |none=>simp only[hr] at hz;cases hz
   |some w =>
    simp only[hr] at hz;exact zKW hx hok h q4 (zF1 hx hok h q4 hp hy hr) hz
theorem BP.start {x:FQry}{s:Scp}{f:F}{N0 J M:Nat}(hf:f.cd N0)(hw:f.wf ((x.g.n+J:Nat):Int))(hJ:J<=M):BP x s (N0+sg J) J M (f,[]):=by
 have e:min M J=J:=by omega
 exact⟨⟨N0,hf,by rw[e];omega⟩,by rw[e];exact hw,⟨0,fun t ht=>absurd ht (by simp),by rw[e];omega⟩,by rw[e];simp,fun t ht=>absurd ht (by simp)⟩
structure BackRes (x:FQry) (s:Scp) (T J:Nat) (g:F×List (Row×Rat)):Prop where
 cd:∃ N,g.1.cd N/\N<=T
 wf:g.1.wf (x.g.n:Int)
 l:∀ t,t∈g.2->Fits (J*T) t.2
 len:g.2.length<=J
 rows:∀ t,t∈g.2->RoIn s t.1/\5<=t.1.k
theorem zKV {x:FQry}{s:Scp}(hx:x.small)(hok:x.ok)(h:Isz x s)(q4:∀ f,f∈x.g.us->f.cd 1){f:F}{N0 J:Nat}(hf:f.cd N0)(hw:f.wf ((x.g.n+J:Nat):Int))(hJ:J<=x.g.us.length){g:F×List (Row×Rat)}(hg:s.back f=some g):BackRes x s (N0+sg J) J g:=by
 have hul:s.q.g.us.length=x.g.us.length:=by rw[h.g];exact xA _
 have:=zKW hx hok h q4 (BP.start (x:=x) (s:=s) hf hw (M:=s.q.g.us.length) oM) hg;have e:min 0 J=0:=by omega
 obtain⟨⟨N,c1,c2⟩,w,⟨A,l1,l2⟩,len,rows⟩:=this;rw[e] at c2 w l2 len;rw[tJ] at l2;exact⟨⟨N,c1,by omega⟩,w,fun t ht=>(l1 t ht).mono oM,by omega,rows⟩
structure DomR (s:Scp) (V M:Nat) (o:Option (Rat×List (Row×Rat))):Prop where
 v:Fits V (oV o)
 m:∀ t,t∈oL o->Fits M t.2
 r:∀ t,t∈oL o->RoIn s t.1
 len:(oL o).length<=20
theorem DomR.no {s:Scp}{V M:Nat}(h:1<=V):DomR s V M none:=⟨uK h,fun t ht=>absurd ht (by simp[oL]),fun t ht=>absurd ht (by simp[oL]),by simp[oL]⟩
def LV (J:Nat):Nat:=if J<=3 then KB J else 2^13
theorem iK {n J:Nat}(h1:1<=n)(h2:n<=3)(h3:J<=4):47+pgv n (n+J)<=LV J/\pgm 46 n (n+J)<=2^16/\46+sg J+13<=LV J/\J*(46+sg J)<=2^16/\3*(46+sg J)+13<=2^16/\LV J<=2^13/\rD KB n (n+J)<=2^16:=by
 have:∀ n:Fin 4,∀ J:Fin 5,1<=n.val->47+pgv n.val (n.val+J.val)<=LV J.val/\pgm 46 n.val (n.val+J.val)<=2^16/\46+sg J.val+13<=LV J.val/\J.val*(46+sg J.val)<=2^16/\3*(46+sg J.val)+13<=2^16/\LV J.val<=2^13/\rD KB n.val (n.val+J.val)<=2^16:=by decide +kernel
 exact this ⟨n,by omega⟩ ⟨J,by omega⟩ h1
theorem zKS {x:FQry}{s:Scp}(hx:x.small)(h:Isz x s){N hi:Nat}{G H:Nat->Nat}(hP:Pays s N hi G H){f:F}(hf:f.cd N)(hw:f.wf (hi:Int))(hh:hi<=x.g.n+x.g.us.length)(hN:N<=2^26)(hG:N+1+G hi<=2^28)(hH:H hi<=2^28):BoxOk s f:=by
 have hus:=hx.g.us;have hn2:=hx.g.n2;have hvars:s.q.g.vars=((x.g.n+x.g.us.length:Nat):Int):=by rw[h.g];show ((x.g.n:Int))+((x.g.us.map fA).length:Int)=_;rw[xA];omega
 have hl:=hw.len;refine⟨by rw[hvars];exact (hw.mono oM).valid,fun t ht=>by have:=hw.v t ht;rw[hvars];omega,(hf.fl hw.cn (zZ _)).mono hN oM,fun i a l hb=>?_,fun t ht b hb=>?_⟩;{obtain⟨g1,g2,g3⟩:=zNG hP hf hw i hb;exact⟨g1.mono oM,fun t ht=>(g2 t ht).mono oM,by omega⟩};{have hv:=hw.v t ht;obtain⟨v,hv1⟩:∃ v:Nat,t.1=v:=⟨t.1.toNat,by omega⟩;rw[hv1] at hb;by_cases hvn:v<x.g.n;{obtain⟨g,_⟩:=zFE hx h hvn hb;exact⟨g.sz.mono (by decide),fun u hu=>(g.c u hu).mono (by decide),vD g.len (by decide)⟩};{obtain⟨j,rfl⟩:∃ j,v=x.g.n+j:=⟨v-x.g.n,by omega⟩;have g:=zM6 h (j:=j) oM hb;have:=zUF j;exact⟨g.sz.mono oM,fun u hu=>(g.c u hu).mono oM,g.len⟩}}
theorem zR8 {x:FQry}{s:Scp}(hx:x.small)(h:Isz x s){f:F}{hi:Nat}(hw:f.wf (hi:Int))(hh:hi<=x.g.n+x.g.us.length){a:Rat}{l:List (Row×Rat)}(hb:s.box f=some (a,l)):∀ t,t∈l->RoIn s t.1:=by have hus:=hx.g.us;refine zEO (fun t ht up b hb=>?_) (fun u hu=>absurd hu (by simp)) hb;have hv:=hw.v t ht;obtain⟨v,hv1⟩:∃ v:Nat,t.1=v:=⟨t.1.toNat,by omega⟩;rw[hv1] at hb;by_cases hvn:v<x.g.n;{exact (zFE hx h hvn hb).1.r};{obtain⟨j,rfl⟩:∃ j,v=x.g.n+j:=⟨v-x.g.n,by omega⟩;exact (zM6 h (j:=j) oM hb).r}
theorem zWD {x:FQry}{s:Scp}(hx:x.small)(h:Isz x s){f:F}{N J:Nat}(hf:f.cd N)(hN:N<=46)(hw:f.wf ((x.g.n+J:Nat):Int))(hJ:J<=x.g.us.length):BoxOk s f/\DomR s (LV J) (2^16) (s.box f):=by
 have hus:=hx.g.us;obtain⟨l1,l2,l3,l4,l5,l6,l7⟩:=iK hx.g.n1 hx.g.n2 (by omega:J<=4);have hP:=zJZ hx h 46 (hi:=x.g.n+J) oM;have hf:=hf.mono hN;refine⟨zKS hx h hP hf hw oM (by decide) oM oM,?_⟩;cases hb:s.box f with
 |none=>exact DomR.no oM| some y =>
  obtain⟨a,l⟩:=y;obtain⟨g1,g2,g3⟩:=zNG hP hf hw f.ts.length (by rw[v9];exact hb);have hn2:=hx.g.n2;exact⟨g1.mono oM,fun t ht=>(g2 t ht).mono oM,zR8 hx h hw oM hb,by show l.length<=20;omega⟩
theorem zKT {x:FQry}{s:Scp}(hx:x.small)(h:Isz x s){f:F}{N:Nat}(hf:f.cd N)(hN:N<=2^21)(hw:f.wf (x.g.n:Int)):BoxOk s f/\∃ a l,s.box f=some (a,l)/\Fits (N+13) a/\(∀ t,t∈l->Fits (3*N+6) t.2)/\(∀ t,t∈l->RoIn s t.1/\t.1.k<=4)/\Rs l/\l.length<=6:=by
 have hn2:=hx.g.n2;have hP:=zJZ hx h N (hi:=x.g.n) oM;have e0:=zWX x.g.n x.g.n (zZ _);have e1:=zWY N x.g.n x.g.n (zZ _);have e2:(N+2)*x.g.n<=(N+2)*3:=wG _ hn2;have hof:∀ t,t∈f.ts->∀ up,∃ b,s.ofB t.1 up=some b/\∃ v:Nat,t.1=v/\v<x.g.n:=fun t ht up=>by
  (have hv:=hw.v t ht;obtain⟨v,hv1⟩:∃ v:Nat,t.1=v:=⟨t.1.toNat,by omega⟩;have hn:s.q.g.n=(x.g.n:Int):=by rw[h.g];rfl);exact⟨_,by unfold Scp.ofB;rw[hn,if_pos oM],v,hv1,by omega⟩
 refine⟨zKS hx h hP hf hw oM oM oM oM,?_⟩;have hs:(s.box f).isSome=true:=zGM fun t ht up=>by obtain⟨b,hb,_⟩:=hof t ht up;rw[hb];rfl
 cases hb:s.box f with
 |none=>rw[hb] at hs;cases hs
 |some y =>
  obtain⟨a,l⟩:=y;obtain⟨g1,g2,g3⟩:=zNG hP hf hw f.ts.length (by rw[v9];exact hb);refine⟨a,l,rfl,g1.mono oM,fun t ht=>(g2 t ht).mono oM,?_,?_,by omega⟩;{refine zEO (P:=fun r=>RoIn s r/\r.k<=4) (fun t ht up b hb=>?_) (fun u hu=>absurd hu (by simp)) hb;obtain⟨_,_,v,hv1,hvn⟩:=hof t ht up;rw[hv1] at hb;obtain⟨g,g'⟩:=zFE hx h hvn hb;exact fun u hu=>⟨g.r u hu,(g' u hu).2⟩};{refine zOZ (fun t ht up b hb=>?_) Rs.nil hb;obtain⟨_,_,v,hv1,hvn⟩:=hof t ht up;rw[hv1] at hb;obtain⟨g,g'⟩:=zFE hx h hvn hb;exact fun u hu=>by rw[(g' u hu).1];decide}
theorem zP9 {x:FQry}{s:Scp}(hx:x.small)(hok:x.ok)(h:Isz x s)(q4:∀ f,f∈x.g.us->f.cd 1){f:F}{N J:Nat}(hf:f.cd N)(hN:N<=46)(hw:f.wf ((x.g.n+J:Nat):Int))(hJ:J<=x.g.us.length):BackOk s f:=by
 have hus:=hx.g.us;have hn2:=hx.g.n2;obtain⟨l1,l2,l3,l4,l5,l6,l7⟩:=iK hx.g.n1 hx.g.n2 (by omega:J<=4);have hvars:s.q.g.vars=((x.g.n+x.g.us.length:Nat):Int):=by rw[h.g];show ((x.g.n:Int))+((x.g.us.map fA).length:Int)=_;rw[xA];omega
 have hul:s.q.g.us.length=x.g.us.length:=by rw[h.g];exact xA _
 have hl:=hw.len;have hT:J*(N+sg J)<=J*(46+sg J):=wG _ oM;refine⟨by rw[hvars];exact (hw.mono oM).valid,(((hf.fl hw.cn (zZ _)).fit oM).fA).mono oM,fun j pa hp=>?_,fun i y=>BP x s (N+sg J) J i y,BP.start hf hw oM,fun i y hy=>?_,fun j y pa z hy hp hr=>zF1 hx hok h q4 hp hy hr⟩;{obtain⟨g,hg,rfl⟩:=zMR h.g hp;have hwg:=hok.us j g hg;have hlt:=(wH.1 hg).1;rw[kY];exact⟨rfl,hwg.cn,((q4 g (yA hg)).fl hwg.cn hwg.len).mono (by decide) oM⟩};{obtain⟨⟨M,c1,c2⟩,w,⟨A,a1,a2⟩,len,rows⟩:=hy;have hwl:=w.len;have hm:min i J<=J:=Nat.min_le_right _ _;have hp:=c1.pos;exact⟨w.cn,⟨M,c1.fl w.cn oM,hp,by omega⟩,⟨by omega,fun t ht=>(a1 t ht).mono oM⟩⟩}
theorem zVV {x:FQry}{s:Scp}(hx:x.small)(hok:x.ok)(h:Isz x s)(q4:∀ f,f∈x.g.us->f.cd 1){f:F}{N J:Nat}(hf:f.cd N)(hN:N<=46)(hw:f.wf ((x.g.n+J:Nat):Int))(hJ:J<=x.g.us.length):LowOk s f/\DomR s (LV J) (2^16) (s.low f):=by
 have hus:=hx.g.us;have hn2:=hx.g.n2;obtain⟨l1,l2,l3,l4,l5,l6,l7⟩:=iK hx.g.n1 hx.g.n2 (by omega:J<=4);have hT:J*(N+sg J)<=J*(46+sg J):=wG _ oM;refine⟨⟨zP9 hx hok h q4 hf hN hw hJ,fun g hg=>?_⟩,?_⟩;{obtain⟨⟨M,c1,c2⟩,w,l,len,rows⟩:=zKV hx hok h q4 hf hw hJ hg;obtain⟨b1,a,m,b2,b3,b4,b5,b6,b7⟩:=zKT hx h c1 oM w;rw[b2];exact⟨b1,rfl,fun t ht=>(l t ht).mono oM,by omega,fun t ht=>(b4 t ht).mono oM,by show m.length<=32;omega⟩}
 ·cases hb:s.back f with
  |none =>
   (have:s.low f=none:=by unfold Scp.low;rw[hb];rfl);rw[this]
   exact DomR.no oM
  |some g =>
   (obtain⟨⟨M,c1,c2⟩,w,l,len,rows⟩:=zKV hx hok h q4 hf hw hJ hb;obtain⟨b1,a,m,b2,b3,b4,b5,b6,b7⟩:=zKT hx h c1 oM w;have e:s.low f=some (a,xT g.2 m 1):=by unfold Scp.low;rw[hb,Option.map_some,b2];rfl);rw[e]
   have hml:=nP 1 m g.2;refine⟨b3.mono oM,fun t ht=>?_,?_,by show (xT g.2 m 1).length<=20;omega⟩;{rcases zCJ b6 (fun t ht u hu=>fun e=>by have h1:=(rows u hu).2;have h2:=(b5 t ht).2;rw[e] at h1;omega) t ht with g'|⟨u,hu,e⟩;{exact (l t g').mono oM};{rw[e];show Fits _ (u.2*1);rw[Rat.mul_one];exact (b4 u hu).mono oM}};{exact sW (P:=fun r=>RoIn s r) (fun t ht=>(b5 t ht).1) (fun t ht=>(rows t ht).1)}
theorem zDG {x:FQry}{s:Scp}(hx:x.small)(hok:x.ok)(h:Isz x s)(q4:∀ f,f∈x.g.us->f.cd 1){f:F}{N J:Nat}(hf:f.cd N)(hN:N<=46)(hw:f.wf ((x.g.n+J:Nat):Int))(hJ:J<=x.g.us.length):DomOk s f/\∀ k,DomR s (LV J) (2^16) (s.dom k f):=by have hus:=hx.g.us;obtain⟨l1,l2,l3,l4,l5,l6,l7⟩:=iK hx.g.n1 hx.g.n2 (by omega:J<=4);obtain⟨h1,h2⟩:=zWD hx h hf hN hw hJ;obtain⟨h3,h4⟩:=zVV hx hok h q4 hf hN hw hJ;refine⟨⟨h1,h3,h2.v.mono oM,h4.v.mono oM⟩,fun k=>?_⟩;unfold Scp.dom;split;{exact h2};{exact h4}
end Go.Proofs.YtaeaffgjdcigoaaGreat
