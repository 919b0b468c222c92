/- A part of the proof: RtA, FdA, FdB, FdC. -/
import Derived.Test.YtaeaffgjdcigoaaGreatW22
import Derived.Test.YtaeaffgjdcigoaaGreatW23
import Derived.Test.YtaeaffgjdcigoaaGreatW26
import Derived.Test.YtaeaffgjdcigoaaGreatW27
set_option linter.all false
namespace Go.Proofs.YtaeaffgjdcigoaaGreat
open Go
set_option maxRecDepth 100000
set_option maxHeartbeats 4000000
def Gn (s:Scp)(n unit:Int)(up:Bool)(hs:Lsz (2^32) s.lems):zC 281 [sv s,iV n,iV unit,zL up] (.tup [rv (zI ((s.lem n unit up).getD 0)),zL ((s.lem n unit up).isSome)]):=by
 refine sF Tryz.f281 ?_;have hno:=λh=>ZZ (s:=s) (n:=n) (unit:=unit) (up:=up) h;have hat:=λ(m:Lem) h1 h2 h3=>i4 (s:=s) (n:=n) (unit:=unit) (up:=up) (m:=m) h1 h2 h3;have hsl:=hs.len;have hss:=hs.sz;generalize s.lem n unit up=o at *;obtain⟨⟨⟨gn,us,os⟩,⟨lo,hi,rows⟩,⟨ts,c1,c2,c3⟩⟩,path,lems⟩:=s;simp only at hno hat hsl hss;have fin:∀ (W:R) (b:Bool),o=none->W=zI (o.getD 0)/\b=o.isSome->W=R0/\b=false:=λW b h1 h2=>by rw[h1] at h2;exact⟨by rw[h2.1];exact uJ,h2.2⟩
 obtain⟨W,hW⟩:∃ W,W=zI (o.getD 0):=⟨_,rfl⟩;obtain⟨b,hb⟩:∃ b,b=o.isSome:=⟨_,rfl⟩;rw[<-hW,<-hb];have fin':o=none->W=R0/\b=false:=λh=>fin W b h ⟨hW,hb⟩;have fin2:∀ q,o=some q->W=zI q/\b=true:=λq h=>by grind
 clear fin hW hb;obtain⟨W1,W2,W3⟩:=W;have fin3:o=none->W1=false/\W2=[]/\W3=[]/\b=false:=λh=>by grind
 clear fin';cbv;refine zQ (λe1=>?_) (λe1=>?_);{cbv;obtain⟨g1,g2,g3,g4⟩:=fin3 (hno oM);subst g1 g2 g3 g4;exact rA};cbv;refine zQ (λe2=>?_) (λe2=>?_);{cbv;obtain⟨g1,g2,g3,g4⟩:=fin3 (hno (by rw[zA] at e2;exact om));subst g1 g2 g3 g4;exact rA};cbv;rw[zA] at e2;obtain⟨m,hm⟩:∃ m,lems[(n-1).toNat]?=some m:=zS (by exact om);have hat':=hat m oM (by exact om) hm;have hms:=hss m (z3 hm);have cc:=s47 m.v hms;have idx:∀ {K:List PV->Prop},K (lc m)->IdxOk 6 (λ_=>enc lc lems) (λ_=>n-1) K:=λhK=>xQ (l:=lems) (n-1).toNat oM (by exact om) xB y7 (λm' hm'=>by grind);generalize hq:m.v.q=q at *;obtain⟨mu,mup,⟨v1,v2,v3⟩,mpf⟩:=m;simp only at hat';clear hat hno hq;generalize hwq:zI q=wq at *;refine⟨zD om om,idx ?_⟩;cbv;refine zQ (λe3=>?_) (λe3=>?_);{cbv;refine⟨zD om om,idx ?_⟩;cbv;refine zF (λe4=>?_) (λe4=>?_);{cbv;obtain⟨g1,g2⟩:=fin2 q (by grind);rw[hwq] at g1;subst g1 g2;refine⟨zD om om,idx ?_⟩;cbv;refine cA cc ?_;cbv;exact rA};{cbv;obtain⟨g1,g2,g3,g4⟩:=fin3 (by grind);subst g1 g2 g3 g4;exact rA}};{cbv;obtain⟨g1,g2,g3,g4⟩:=fin3 (by grind);subst g1 g2 g3 g4;exact rA}
def oF (s:Scp)(kind unit:Int)(hs:Dsz (2^32) s.path):zC 169 [sv s,iV kind,iV unit] (zL (s.dcd kind unit)):=by
 refine sF Tryz.f169 ?_;have cf:∀ d,d∈s.path->zC 163 [qv s.q,dv d] (zL (d.fits s.q)):=λd h=>J6 s.q d (hs.sz d h);have hpl:=hs.len;generalize hr:s.dcd kind unit=r;have hr0:r=(s.path.drop 0).any (λd=>decide (d.k=kind)&&(decide (d.i=unit)&&d.fits s.q)):=hr.symm;obtain⟨ft,hft⟩:∃ ft:Dec->Bool,∀ d,ft d=d.fits s.q:=⟨_,λ_=>rfl⟩;simp only[<-hft] at cf hr0;obtain⟨P,hP⟩:∃ P:Dec->Bool,(λd=>decide (d.k=kind)&&(decide (d.i=unit)&&ft d))=P:=⟨_,rfl⟩;rw[hP] at hr0;have hPd:∀ d,P d=(decide (d.k=kind)&&(decide (d.i=unit)&&ft d)):=λd=>by grind
 clear hP hft hr hs;cbv;refine z7 (σ:=Nat) (λi=>⟨[(1,iV kind),(2,iV unit),(3,.ptr 3 0),(7,iV i)],[(3,.box (sc s))]⟩) (λi=>i<=s.path.length/\r=(s.path.drop i).any P) (λi=>s.path.length-i) 0 ⟨by omega,hr0⟩ (wkZ) ?_;clear hr0;intro i hi;obtain⟨h1,h2⟩:=hi;cbv;refine zF (λh5=>?_) (λh5=>?_)
 ·have hlt:=jS h5;obtain⟨d,hd⟩:=zS hlt;have cv:=cf d (z3 hd);rw[zY hd,List.any_cons,hPd] at h2;generalize ft d=fd at *;generalize hrest:(s.path.drop (i+1)).any P=rest at *;cbv;refine zM 28 (by cbv) ?_;cbv;refine yL hd uF qP ?_;cbv;refine zQ (λe1=>?_) (λe1=>?_)
  rotate_left
  {rw[decide_eq_false e1,kS,r9] at h2;cbv;exact⟨zD om om,i+1,⟨om,by grind⟩,om,wkZ⟩};rw[decide_eq_true e1,yW] at h2;cbv;refine yL hd uF qP ?_;cbv;refine zQ (λe2=>?_) (λe2=>?_)
  rotate_left
  {rw[decide_eq_false e2,kS,r9] at h2;cbv;exact⟨zD om om,i+1,⟨om,by grind⟩,om,wkZ⟩};rw[decide_eq_true e2,yW] at h2;cbv;refine yL hd uF qP ?_;cbv;refine dA cv ?_;cbv;refine zO (λe3=>?_) (λe3=>?_)
  ·rw[e3,Us] at h2;cbv
   (refine rC ?_;cbv)
   exact yV h2
  {rw[e3,r9] at h2;cbv;exact⟨zD om om,i+1,⟨om,by grind⟩,om,wkZ⟩}
 ·have he:=dZ h5 h1;rw[he,vE] at h2;have h2':r=false:=h2;cbv
  (refine rC ?_;cbv)
  exact zK h2'
def Gq {f g:F}(hf:Cn f.ts)(hg:Cn g.ts){k n k' n':Nat}(h1:f.fl k n)(h2:g.fl k' n')(hk:k<=2^26)(hk':k'<=2^26)(hn:n<=2^35)(hn':n'<=2^35):zC 118 [fv f,fv g] (fv (f.add g)):=by have h:=DY f.ts (zI f.c) (fA g) hf (by rw[show (fA g).ts=tR g.ts from rfl,Q7];exact hg) ⟨by have:=h1.len;omega,λt ht=>(h1.t t ht).mono oM⟩ ((zU h1.c).mono oM) ((Ui h2 oM).mono oM) (by have:=h1.len;have:=h2.len;rw[show (fA g).ts=tR g.ts from rfl,vD];omega);rw[qG,z6] at h;exact h
def Ym {f g:F}(hf:Cn f.ts)(hg:Cn g.ts){k n k' n':Nat}(h1:f.fl k n)(h2:g.fl k' n')(hk:k<=2^26)(hk':k'<=2^26)(hn:n<=2^35)(hn':n'<=2^35):zC 164 [fv f,fv g] (fv (f.sub g)):=by have h:=J5 f.ts (zI f.c) (fA g) hf (by rw[show (fA g).ts=tR g.ts from rfl,Q7];exact hg) ⟨by have:=h1.len;omega,λt ht=>(h1.t t ht).mono oM⟩ ((zU h1.c).mono oM) ((Ui h2 oM).mono oM) (by have:=h1.len;have:=h2.len;rw[show (fA g).ts=tR g.ts from rfl,vD];omega);rw[qG,z6] at h;exact h
def fQ {f:F}{q:Rat}{k n m:Nat}(h1:f.fl k n)(hq:Fits m q)(hk:k<=2^31)(hn:n<=2^35)(hm:m<=2^31):zC 100 [fv f,rv (zI q)] (fv (f.scale q)):=by have h:=XE (fA f) (zI q) ((Ui h1 oM).mono oM) ((zU hq).mono oM);rw[qG,z6] at h;exact h
def Nw (q:Rat):zC 165 [rv (zI q)] (fv (F.num q)):=iO (zI q)
theorem GE {x:R}(h:x.ok=true):zI x.q=x:=(of_decide_eq_true h).symm
def Q3 {vars:Int}:∀ {ts:List (Int×R)} {p:Int},vT vars p ts=true->tR (tq ts)=ts/\Cn (tq ts)/\∀ t,t∈tq ts->p<t.1
 |[],p,_=>⟨rfl,Cn.nil,λt h=>absurd h (by simp[tq])⟩| t::r,p,h=>by rw[YP] at h;simp only[yP,decide_eq_true_eq] at h;obtain⟨⟨⟨⟨⟨h1,h2⟩,h3⟩,h4⟩,h5⟩,h6⟩:=h;obtain⟨g1,g2,g3⟩:=Q3 h6;refine⟨?_,?_,λu hu=>?_⟩;{grind [tR,tq,GE]};{exact Cn.cons (t:=(t.1,t.2.q)) g2 g3 h4};{rcases yG.1 hu with rfl|hu;{exact h3};{have:=g3 u hu;omega}}
def cZ {a:A}{vars:Int}(h:a.valid vars=true):fA a.f=a/\Cn a.f.ts:=by unfold A.valid at h;simp only[yP] at h;obtain⟨g1,g2,_⟩:=Q3 h.1;refine⟨?_,g2⟩;obtain⟨ts,c⟩:=a;show (⟨tR (tq ts),zI c.q⟩:A)=⟨ts,c⟩;grind [GE]
theorem add_zero {f:F}(h:Cn f.ts):f.add F.zero=f:=by refine F.ext' ?_ ?_;{refine (Cn.mrg h Cn.nil).ext h (λv=>?_);grind [co,rG]};{show f.c+0*1=f.c;grind}
structure Qry.can (q:Qry):Prop where
 us:∀ a,a∈q.g.us->fA a.f=a/\Cn a.f.ts
 os:∀ a,a∈q.g.os->fA a.f=a/\Cn a.f.ts
 rows:∀ a,a∈q.r.rows->fA a.f=a/\Cn a.f.ts
 lo:∀ x,x∈q.r.lo->zI x.q=x
 hi:∀ x,x∈q.r.hi->zI x.q=x
def MP:∀ {lo hi:List R},lo.length=hi.length->vB lo hi=true->(∀ x,x∈lo->zI x.q=x)/\∀ x,x∈hi->zI x.q=x:=λhe h=>by rw[Xg he] at h;simp only[yP,pA] at h;grind [GE]
theorem Qry.can_of {q:Qry}(h:q.valid=true):q.can:=by unfold Qry.valid Grp.valid Reg.valid at h;simp only[yP,decide_eq_true_eq,pA] at h;obtain⟨⟨⟨⟨h1,h2⟩,h3⟩,⟨h4,h5⟩,h6⟩,h7⟩:=h;obtain⟨b1,b2⟩:=MP oM h5;refine⟨λa ha=>?_,λa ha=>cZ (h3 a ha),λa ha=>cZ (h6 a ha),b1,b2⟩;obtain⟨j,_,hj⟩:=UC h2 ha;exact cZ hj
def u8c (b:UInt8):List PV:=[.int .u8 (λ_=>(b.toNat:Int))]
def oA (b:UInt8):yT qO (u8c b)=true:=rfl
def eZ (b:UInt8):(u8c b).length=1:=rfl
abbrev u8v (raw:List UInt8):PV:=.sl (λ_=>enc u8c raw)
abbrev fdo (raw:List UInt8) (a:Nat):List (Nat×Obj'):=[(1000000,.box [u8v raw,iV a])]
def aK (raw:List UInt8)(a n:Nat)(hr:raw.length<2^38)(hn:0<n)(hn2:n<2^60)(ha:a<=raw.length):Sound 117 [.ptr 1000000 0,iV n] (fdo raw a) [] (iV ((fdN raw n a:Int))) (fdo raw (na raw a)) []:=by
 refine sF Tryz.f117 ?_;have h0:¬a<raw.length->fdN raw n a=0:=λh=>by unfold fdN;grind
 have h1:∀ x,raw[a]?=some x->fdN raw n a=x.toNat%n:=λx h=>by grind [fdN]
 have n0:¬a<raw.length->na raw a=a:=λh=>if_neg h;have n1:a<raw.length->na raw a=a+1:=λh=>if_pos h;generalize fdN raw n a=r at *;generalize na raw a=b at *;cbv;refine zM 10 (by cbv) ?_;cbv;refine zF (λh=>?_) (λh=>?_)
 ·(have hlt:¬a<raw.length:=by rw[zA] at h;exact om);have e1:=h0 hlt
  have e2:=n0 hlt;cbv;subst e1 e2;exact oK rfl (lR) rfl rfl rfl rfl
 ·(have hlt:a<raw.length:=by rw[zA] at h;exact om);obtain⟨x,hx⟩:=zS hlt
  (have e1:=h1 x hx;have e2:=n1 hlt;cbv;refine⟨zD om om,?_⟩;cbv;refine zM 15 (by cbv) ?_;cbv;refine⟨zD om om,xQ (l:=raw) a om hlt oA eZ (λx' hx'=>?_)⟩;obtain rfl:x'=x:=by grind);have hx8:=x'.toNat_lt
  cbv;refine⟨wG om,?_⟩;cbv;refine UX (.le (ps':=⟨[(4,iV r)],[(1000000,.box [u8v raw,iV b])]⟩) ?_ ?_ rfl) rfl (lR) rfl rfl rfl rfl;{cbv;refine⟨zB ?_,trivial⟩;show irem (nx .i64 (x'.toNat:Int)) (n:Int)=_;unfold irem nx;rw[show IntKind.wrap .i64 (x'.toNat:Int)=(x'.toNat:Int) by grind [IntKind.wrap,IntKind.bits],e1];grind};{cbv;exact⟨⟨lR,zB om,trivial⟩,trivial⟩}
def De {k:Nat}(h:k<4):(k=0/\dnm k=1)\/(k=1/\dnm k=1)\/(k=2/\dnm k=2)\/(k=3/\dnm k=4):=by
 match k,h with
 |0,_=>exact .inl ⟨rfl,rfl⟩| 1,_=>exact .inr (.inl ⟨rfl,rfl⟩)| 2,_=>exact .inr (.inr (.inl ⟨rfl,rfl⟩))| 3,_=>exact .inr (.inr (.inr ⟨rfl,rfl⟩))
def J8 (raw:List UInt8)(a:Nat)(hr:raw.length<2^38)(ha:a<=raw.length):Sound 116 [.ptr 1000000 0] (fdo raw a) [] (rv (zI (fdQ raw a).1)) (fdo raw (fdQ raw a).2) []:=by refine sF Tryz.f116 ?_;have c9:=aK raw a 9 hr (by decide) (by decide) ha;have c4:=aK raw (na raw a) 4 hr (by decide) (by decide) (dL ha);have h9:fdN raw 9 a<9:=kP (by decide);have h4:fdN raw 4 (na raw a)<4:=kP (by decide);have hd:=De h4;have hp:=Fd (fdN raw 4 (na raw a));have cf:=s43 ((fdN raw 9 a:Int)-4) (dnm (fdN raw 4 (na raw a))) oM oM oM oM oM;have e1:(fdQ raw a).1=i7 ((fdN raw 9 a:Int)-4) (dnm (fdN raw 4 (na raw a))):=rfl;have e2:(fdQ raw a).2=na raw (na raw a):=rfl;rw[e1,e2];show wp _ _ (dU _ (rv (zI (i7 ((fdN raw 9 a:Int)-4) (dnm (fdN raw 4 (na raw a)))))) (fdo raw (na raw (na raw a))) []);generalize zI (i7 ((fdN raw 9 a:Int)-4) (dnm (fdN raw 4 (na raw a))))=X at *;generalize dnm (fdN raw 4 (na raw a))=d at *;generalize fdN raw 9 a=k9 at *;generalize fdN raw 4 (na raw a)=k4 at *;generalize na raw (na raw a)=b2 at *;generalize na raw a=b1 at *;clear e1 e2 hp;cbv;refine kA (λ_=>1000000) c9 ?_;cbv;refine⟨zD om om,?_⟩;cbv;refine kA (λ_=>1000000) c4 ?_;rcases hd with⟨q1,q2⟩|⟨q1,q2⟩|⟨q1,q2⟩|⟨q1,q2⟩;{subst q1 q2;cbv;refine bM 0 rfl (by decide) ?_;cbv;refine cA cf ?_;cbv;exact Yo (.refl _) rfl rfl rfl rfl (by cbv;exact okA)};{subst q1 q2;cbv;refine bM 1 rfl (by decide) ?_;cbv;refine cA cf ?_;cbv;exact Yo (.refl _) rfl rfl rfl rfl (by cbv;exact okA)};{subst q1 q2;cbv;refine bM 2 rfl (by decide) ?_;cbv;refine cA cf ?_;cbv;exact Yo (.refl _) rfl rfl rfl rfl (by cbv;exact okA)};{subst q1 q2;cbv;refine bM 3 rfl (by decide) ?_;cbv;refine cA cf ?_;cbv;exact Yo (.refl _) rfl rfl rfl rfl (by cbv;exact okA)}
def HH {raw:List UInt8}{n v:Nat}{f:F}{a:Nat}(h:¬0<fdN raw 3 a):t8 raw (n+1) v f a=t8 raw n (v+1) f (na raw a):=if_neg h
def HG {raw:List UInt8}{n v:Nat}{f:F}{a:Nat}(h:0<fdN raw 3 a):t8 raw (n+1) v f a=t8 raw n (v+1) (f.add ((F.var v).scale (fdQ raw (na raw a)).1)) (fdQ raw (na raw a)).2:=if_pos h
def UU (raw:List UInt8)(n a:Nat)(hr:raw.length<2^38)(ha:a<=raw.length)(hn:n<=100):Sound 50 [.ptr 1000000 0,iV n] (fdo raw a) [] (fv (fdF raw n a).1) (fdo raw (fdF raw n a).2) []:=by
 refine sF Tryz.f50 ?_;have cq:∀ b,b<=raw.length->Sound 116 [.ptr 1000000 0] (fdo raw b) [] (rv (zI (fdQ raw b).1)) (fdo raw (fdQ raw b).2) []:=λb hb=>J8 raw b hr hb;have c3:∀ b,b<=raw.length->Sound 117 [.ptr 1000000 0,iV 3] (fdo raw b) [] (iV ((fdN raw 3 b:Int))) (fdo raw (na raw b)) []:=λb hb=>aK raw b 3 hr (by decide) (by decide) hb;have hna:∀ b,b<=raw.length->na raw b<=raw.length:=λb hb=>dL hb;have hq2:∀ b,b<=raw.length->(fdQ raw b).2<=raw.length:=λb hb=>i6 hb;have hd:fdF raw n a=t8 raw n 0 (F.num (fdQ raw a).1) (fdQ raw a).2:=rfl;show wp _ _ (dU _ (av (fA (fdF raw n a).1)) (fdo raw (fdF raw n a).2) []);generalize fdF raw n a=R at *;obtain⟨W,hW⟩:=ex (fA R.1);rw[hW];obtain⟨X0,hX0⟩:=ex (zI (fdQ raw a).1);have cq0:Sound 116 [.ptr 1000000 0] (fdo raw a) [] (rv X0) (fdo raw (fdQ raw a).2) []:=by subst hX0;grind
 cbv;refine kA (λ_=>1000000) cq0 ?_;cbv;refine z7 (σ:=Nat×Nat×F) (λs=>⟨[(0,.ptr 1000000 0),(1,iV n),(4,.ptr 4 0),(5,.ptr 5 0),(6,iV s.1)],
   [(1000000,.box [u8v raw,iV s.2.1]),(4,.box [.nil,.ff,.nil,.nil]),(5,.box [.sl (λ_=>enc tc (fA s.2.2).ts),zL ((fA s.2.2).c.neg),.sl (λ_=>lm (fA s.2.2).c.num),.sl (λ_=>lm (fA s.2.2).c.den)])]⟩)
  (λs=>s.1<=n/\s.2.1<=raw.length/\R=t8 raw (n-s.1) s.1 s.2.2 s.2.1/\s.2.2.wf s.1/\s.2.2.fl (1+6*s.1) s.1) (λs=>n-s.1)
  (0,(fdQ raw a).2,F.num (fdQ raw a).1) ⟨by omega,hq2 a ha,hd,F.wf.num _ _,(u6 (jR raw a)).mono oM oM⟩ (.le ?_ ?_ rfl) ?_
 {cbv;exact okA};{cbv;subst hX0;exact okA};clear hd cq0 hX0;intro s hs;obtain⟨v,b,f⟩:=s;obtain⟨g1,g2,g3,g4,g5⟩:=hs;dsimp only at g1 g2 g3 g4 g5;cbv;refine zF (λh=>?_) (λh=>?_)
 ·have hv:v<n:=om;rw[show n-v=(n-(v+1))+1 by omega] at g3;have c3':=c3 b g2;generalize hk3:fdN raw 3 b=k3 at *;cbv;refine kA (λ_=>1000000) c3' ?_;cbv;refine zF (λh2=>?_) (λh2=>?_)
  ·(rw[HG (by rw[hk3];exact om)] at g3;have hq:=jR raw (na raw b);have hb':=hq2 (na raw b) (hna b g2);have cn:=cq (na raw b) (hna b g2);have csc:=fQ (f:=F.var v) (gW v) hq (by decide) (by decide) (by decide);have w2:((F.var v).scale (fdQ raw (na raw b)).1).wf ((v+1:Nat):Int):=(F.wf.var oM oM).scale;have l2:((F.var v).scale (fdQ raw (na raw b)).1).fl (1+1+2) 1:=(gW v).scale hq;have cad:=Gq g4.cn w2.cn g5 l2 oM oM oM oM;have w3:=(g4.mono (by omega:(v:Int)<=((v+1:Nat):Int))).add w2;have l3:=(g5.add l2).mono (k':=1+6*(v+1)) (n':=v+1) oM oM;generalize (fdQ raw (na raw b)).2=b' at *;generalize (fdQ raw (na raw b)).1=q at *;generalize hS:(F.var v).scale q=S at *;generalize hT:f.add S=T at *;obtain⟨V,hV⟩:=ex (fA (F.var v));obtain⟨S',hS'⟩:=ex (fA S);obtain⟨T',hT'⟩:=ex (fA T);obtain⟨X,hX⟩:=ex (zI q);obtain⟨f',hf'⟩:=ex (fA f);have d1:zC 119 [iV v] (av V):=by subst hV;exact XD v);have d2:zC 100 [av V,rv X] (av S'):=by subst hV hX hS';exact csc
   (have d3:zC 118 [av f',av S'] (av T'):=by subst hf' hS' hT';exact cad);have d4:Sound 116 [.ptr 1000000 0] (fdo raw (na raw b)) [] (rv X) (fdo raw b') []:=by simp_all
   rw[hf'];clear hV hX hS' csc cad cn;cbv;refine vP 6 [(4,1000000)] (by cbv) (by cbv) (by cbv) ?_;cbv;refine dA d1 ?_;cbv;refine WA (λ_=>1000000) rfl okA d4 rfl rfl rfl rfl rfl rfl ?_;cbv;refine dA d2 ?_;cbv;refine cA d3 ?_;cbv;refine⟨zD om om,(v+1,b',T),⟨om,hb',g3,w3,l3⟩,om,.le okZ ?_ rfl⟩;subst hT';exact okZ
  {rw[HH (by rw[hk3];exact om)] at g3;have hb':=hna b g2;generalize na raw b=b' at *;cbv;exact⟨zD om om,(v+1,b',f),⟨om,hb',g3,g4.mono (by grind),g5.mono oM oM⟩,oM,wkZ⟩}
 ·(have hv:v=n:=om;have hR:R=(f,b):=by rw[g3,show n-v=0 by omega];rfl);subst hR
  have hW':fA f=W:=hW;cbv;subst hW';exact Yo (.refl _) rfl rfl rfl rfl (by cbv;exact okA)
def MU:ty 22=.sli 1 1 [.int .u8 (λ_=>0)]:=by cbv
def JP:ty 24=.sli 4 80 [.nil,.ff,.nil,.nil]:=by cbv
def DF:ty 27=.sli 3 56 [.ff,.nil,.nil]:=by cbv
def Tr (raw:List UInt8)(hr:raw.length<2^38):Sound 49 [u8v raw] [] [] (.ptr 100 0) [] [(100,.box [u8v raw,iV (((0:Nat):Int))])]:=by
 refine sF Tryz.f49 ?_;cbv;refine bN MU rfl rfl rfl rfl rfl rfl (xE eZ _) (z8 oM (by grind [zA])) rfl ?_;cbv;refine tY 7 (.trans (.frz 5 rfl rfl ?_ ?_) (.le (ps':=⟨[(2,.ptr 7 0)],[(7,.box [u8v raw,iV (((0:Nat):Int))])]⟩) ?_ ?_ rfl)) rfl rfl rfl ?_
 ·cbv
  repeat' first|exact trivial|exact zZ (by simp[zA])|apply And.intro
 ·cbv
  repeat' first|exact trivial|exact zZ (by simp[zA])|apply And.intro
 {exact okZ};{cbv;exact⟨⟨zR (yU (by grind)),lR,trivial⟩,trivial⟩};{cbv;exact lR}
def Wy (raw:List UInt8)(d k v a:Nat):fdL raw d (k+1) v a=((fdF raw v a).1::(fdL raw d k (v+d) (fdF raw v a).2).1,(fdL raw d k (v+d) (fdF raw v a).2).2):=rfl
def Wx (raw:List UInt8)(d v a:Nat):fdL raw d 0 v a=([],a):=rfl
def bJ {α:Type}(p:α->List PV)(l:List α)(a:α):enc p l++zW [p a]=enc p (l++[a]):=by rw[<-j6];rfl
def D6 (raw:List UInt8)(a:Nat)(hr:raw.length<2^38)(ha:a<=raw.length):Sound 250 [.ptr 1000000 0] (fdo raw a) [] (gv (fdG raw a).1.g) (fdo raw (fdG raw a).2) []:=by
 refine sF Tryz.f250 ?_;have c1:=aK raw a 3 hr (by decide) (by decide) ha;have c2:=aK raw (na raw a) 5 hr (by decide) (by decide) (dL ha);have c3:=aK raw (na raw (na raw a)) 3 hr (by decide) (by decide) (dL (dL ha));have cF:∀ (v b:Nat),b<=raw.length->v<=100->Sound 50 [.ptr 1000000 0,iV v] (fdo raw b) [] (fv (fdF raw v b).1) (fdo raw (fdF raw v b).2) []:=λv b h1 h2=>UU raw v b hr h1 h2;have hFl:∀ (v b:Nat),b<=raw.length->(fdF raw v b).2<=raw.length:=λv b h=>QA h;have l1:fdN raw 3 a<3:=kP (by decide);have l2:fdN raw 5 (na raw a)<5:=kP (by decide);have l3:fdN raw 3 (na raw (na raw a))<3:=kP (by decide);have hb3:na raw (na raw (na raw a))<=raw.length:=dL (dL (dL ha));have hG:fdG raw a=(⟨1+fdN raw 3 a,(fdL raw 1 (fdN raw 5 (na raw a)) (1+fdN raw 3 a) (na raw (na raw (na raw a)))).1,(fdL raw 0 (1+fdN raw 3 (na raw (na raw a))) (1+fdN raw 3 a+fdN raw 5 (na raw a)) (fdL raw 1 (fdN raw 5 (na raw a)) (1+fdN raw 3 a) (na raw (na raw (na raw a)))).2).1⟩,(fdL raw 0 (1+fdN raw 3 (na raw (na raw a))) (1+fdN raw 3 a+fdN raw 5 (na raw a)) (fdL raw 1 (fdN raw 5 (na raw a)) (1+fdN raw 3 a) (na raw (na raw (na raw a)))).2).2):=rfl;rw[hG];clear hG;generalize na raw (na raw (na raw a))=b3 at *;generalize na raw (na raw a)=b2 at *;generalize na raw a=b1 at *;generalize fdN raw 3 a=x1 at *;generalize fdN raw 5 b1=x2 at *;generalize fdN raw 3 b2=x3 at *;obtain⟨U,hU⟩:=ex (fdL raw 1 x2 (1+x1) b3);obtain⟨O,hO⟩:=ex (fdL raw 0 (1+x3) (1+x1+x2) U.2);rw[hU,hO];have hUl:U.1.length=x2:=by grind [aW]
 have hOl:O.1.length=1+x3:=by grind [aW]
 obtain⟨UA,hUA⟩:=ex (U.1.map fA);obtain⟨OA,hOA⟩:=ex (O.1.map fA);obtain⟨bO,hbO⟩:=ex O.2;have hgoal:gv (⟨1+x1,U.1,O.1⟩:FGrp).g=.agg [iV (((1+x1:Nat):Int)),alv UA,alv OA]:=by rw[<-hUA,<-hOA];rfl
 show wp _ _ (dU _ (gv (⟨1+x1,U.1,O.1⟩:FGrp).g) (fdo raw O.2) []);rw[hgoal,hbO];clear hgoal;cbv;refine kA (λ_=>1000000) c1 ?_;cbv;refine⟨zD om om,?_⟩;cbv;refine kA (λ_=>1000000) c2 ?_;cbv;refine kA (λ_=>1000000) c3 ?_;cbv;refine⟨zD om om,?_⟩;cbv;refine z7 (σ:=Nat×Nat×List F) (λs=>⟨[(0,.ptr 1000000 0),(2,.ptr 2 0),(3,.ptr 3 0),(4,iV x2),(5,iV (((1+x3:Nat):Int))),(6,iV s.1)],
   [(1000000,.box [u8v raw,iV s.2.1]),(2,.box [iV 0,.nil,.nil]),(3,.box [iV (((1+x1:Nat):Int)),yX 31 4 s.2.2.length,.nil]),(31,xF 4 (enc ac (s.2.2.map fA)))]⟩)
  (λs=>s.1<=x2/\s.2.1<=raw.length/\U.1=s.2.2++(fdL raw 1 (x2-s.1) (1+x1+s.1) s.2.1).1/\U.2=(fdL raw 1 (x2-s.1) (1+x1+s.1) s.2.1).2) (λs=>x2-s.1)
  (0,b3,[]) ⟨by omega,hb3,by grind,by grind⟩
  (.trans (.le (ps':=⟨[(0,.ptr 1000000 0),(2,.ptr 2 0),(3,.ptr 3 0),(4,iV x2),(5,iV (((1+x3:Nat):Int))),(6,iV (((0:Nat):Int)))],
    [(1000000,.box [u8v raw,iV b3]),(2,.box [iV 0,.nil,.nil]),(3,.box [iV (((1+x1:Nat):Int)),.nil,.nil])]⟩) okZ okZ rfl)
   (.trans (.adoptB (ps:=⟨[(0,.ptr 1000000 0),(2,.ptr 2 0),(3,.ptr 3 0),(4,iV x2),(5,iV (((1+x3:Nat):Int))),(6,iV (((0:Nat):Int)))],
    [(1000000,.box [u8v raw,iV b3]),(2,.box [iV 0,.nil,.nil]),(3,.box [iV (((1+x1:Nat):Int)),.nil,.nil])]⟩) (cs:=[iV (((1+x1:Nat):Int)),.nil,.nil]) 31 4 3 1 rfl rfl rfl) (.le okZ ?_ rfl))) ?_
 {cbv;exact⟨okA,okA,okA,zG rfl,trivial⟩};intro s hs;obtain⟨j,b,us⟩:=s;obtain⟨g1,g2,g3,g4⟩:=hs;dsimp only at g1 g2 g3 g4;cbv;refine zF (λh=>?_) (λh=>?_)
 ·(have hj:j<x2:=om;rw[show x2-j=(x2-(j+1))+1 by omega,Wy] at g3 g4;have cf:=cF (1+x1+j) b g2 oM;have hb':=hFl (1+x1+j) b g2;generalize hFF:fdF raw (1+x1+j) b=FF at *;obtain⟨W,hW⟩:=ex (fA FF.1);obtain⟨b',hbb⟩:=ex FF.2;have d1:Sound 50 [.ptr 1000000 0,iV (((1+x1+j:Nat):Int))] (fdo raw b) [] (av W) (fdo raw b') []:=by simp_all);rw[hbb] at g3 g4 hb'
  clear cf;cbv;refine vP 9 [(7,1000000)] (by cbv) (by cbv) (by cbv) ?_;cbv;refine⟨zD om om,?_⟩;cbv;refine WA (λ_=>1000000) rfl (by exact⟨lR,zB om,trivial⟩) d1 rfl rfl rfl rfl rfl rfl ?_;cbv;refine wM JP rfl rfl rfl (by simp[zA]) rfl ⟨by simp[zW,xT]⟩ (z8 oM (by have hus:us.length<x2:=(by have:=congrArg List.length g3;rw[hUl] at this;simp at this;omega);simp[zW,zA];exact om)) rfl ?_;cbv;refine⟨zD om om,(j+1,b',us++[FF.1]),⟨om,hb',by rw[g3];simp[iG],by rw[g4];simp[iG]⟩,oM,.le okZ ?_ rfl⟩;cbv;refine⟨okA,okA,⟨lR,zT rfl (by simp[zW,zA]),lR,trivial⟩,zG ?_,trivial⟩;subst hW;show enc ac (us.map fA)++zW [ac (fA FF.1)]=enc ac ((us++[FF.1]).map fA);rw[bJ,gP];rfl
 have hj:j=x2:=om;subst hj;rw[W7,Wx] at g3 g4;have e1:U.1=us:=by grind
 have e2:U.2=b:=g4;have hul:us.length=j:=by grind
 have hUAs:us.map fA=UA:=by grind
 rw[e2] at hO;clear g3 g4 h hU hUA e1 e2;cbv;refine z7 (σ:=Nat×Nat×List F) (λs=>⟨[(0,.ptr 1000000 0),(2,.ptr 2 0),(3,.ptr 3 0),(4,iV j),(5,iV (((1+x3:Nat):Int))),(7,iV s.1)],
   [(1000000,.box [u8v raw,iV s.2.1]),(2,.box [iV 0,.nil,.nil]),(3,.box [iV (((1+x1:Nat):Int)),alv UA,yX 47 4 s.2.2.length]),(47,xF 4 (enc ac (s.2.2.map fA)))]⟩)
  (λs=>s.1<=1+x3/\s.2.1<=raw.length/\O.1=s.2.2++(fdL raw 0 (1+x3-s.1) (1+x1+j) s.2.1).1/\O.2=(fdL raw 0 (1+x3-s.1) (1+x1+j) s.2.1).2) (λs=>1+x3-s.1)
  (0,b,[]) ⟨by omega,g2,by grind,by grind⟩
  (.trans (.frz 31 rfl rfl (by cbv;repeat' first|exact trivial|exact zZ (by simp[zA])|apply And.intro) (by cbv;repeat' first|exact trivial|exact zZ (by simp[zA])|apply And.intro))
   (.trans (.le (ps':=⟨[(0,.ptr 1000000 0),(2,.ptr 2 0),(3,.ptr 3 0),(4,iV j),(5,iV (((1+x3:Nat):Int))),(7,iV (((0:Nat):Int)))],
    [(1000000,.box [u8v raw,iV b]),(2,.box [iV 0,.nil,.nil]),(3,.box [iV (((1+x1:Nat):Int)),alv UA,.nil])]⟩) okZ ?_ rfl)
   (.trans (.adoptB (ps:=⟨[(0,.ptr 1000000 0),(2,.ptr 2 0),(3,.ptr 3 0),(4,iV j),(5,iV (((1+x3:Nat):Int))),(7,iV (((0:Nat):Int)))],
    [(1000000,.box [u8v raw,iV b]),(2,.box [iV 0,.nil,.nil]),(3,.box [iV (((1+x1:Nat):Int)),alv UA,.nil])]⟩) (cs:=[iV (((1+x1:Nat):Int)),alv UA,.nil]) 47 4 3 2 rfl rfl rfl) (.le okZ ?_ rfl)))) ?_
 {cbv;exact⟨okA,okA,⟨lR,zR (by rw[wZ,yU (by simp[zA]),hUAs]),lR,trivial⟩,trivial⟩};{cbv;exact⟨okA,okA,okA,zG rfl,trivial⟩};clear g2 hUAs hul;intro s hs;obtain⟨i,b,os⟩:=s;obtain⟨g1',g2,g3,g4⟩:=hs;dsimp only at g1' g2 g3 g4;cbv;refine zF (λh=>?_) (λh=>?_)
 ·(have hi:i<1+x3:=om;rw[show 1+x3-i=(1+x3-(i+1))+1 by omega,Wy] at g3 g4;have cf:=cF (1+x1+j) b g2 oM;have hb':=hFl (1+x1+j) b g2;generalize hFF:fdF raw (1+x1+j) b=FF at *;obtain⟨W,hW⟩:=ex (fA FF.1);obtain⟨b',hbb⟩:=ex FF.2;have d1:Sound 50 [.ptr 1000000 0,iV (((1+x1+j:Nat):Int))] (fdo raw b) [] (av W) (fdo raw b') []:=by subst hW hbb;exact cf);rw[hbb] at g3 g4 hb'
  clear cf;cbv;refine vP 9 [(7,1000000)] (by cbv) (by cbv) (by cbv) ?_;cbv;refine⟨zD om om,?_⟩;cbv;refine WA (λ_=>1000000) rfl (by exact⟨lR,zB om,trivial⟩) d1 rfl rfl rfl rfl rfl rfl ?_;cbv;refine wM JP rfl rfl rfl (by simp[zA]) rfl ⟨by simp[zW,xT]⟩ (z8 (by simp[zW] <;> omega) (by have hos:os.length<1+x3:=(by have:=congrArg List.length g3;rw[hOl] at this;simp at this;omega);simp[zW,zA];exact om)) rfl ?_;cbv;refine⟨zD om om,(i+1,b',os++[FF.1]),⟨om,hb',by rw[g3];simp[iG],by rw[g4];simp[iG]⟩,(by show 1+x3-(i+1)<1+x3-i;omega),.le okZ ?_ rfl⟩;cbv;refine⟨okA,okA,⟨lR,lR,zT rfl (by simp[zW,zA]),trivial⟩,zG ?_,trivial⟩;subst hW;show enc ac (os.map fA)++zW [ac (fA FF.1)]=enc ac ((os++[FF.1]).map fA);rw[bJ,gP];rfl
 ·(have hi:i=1+x3:=om;subst hi;rw[W7,Wx] at g3 g4;have e1:O.1=os:=by grind);have e2:O.2=b:=g4
  (have e3:os.map fA=OA:=by grind);have e4:b=bO:=by omega
  subst e4;cbv;refine Yo (.trans (.le (ps':=⟨[(2,.ptr 2 0)],[(1000000,.box [u8v raw,iV b]),(2,.box [iV (((1+x1:Nat):Int)),alv UA,yX 47 4 os.length]),(47,xF 4 (enc ac (os.map fA)))]⟩) okZ ?_ rfl) (.frz 47 rfl rfl (by cbv;repeat' first|exact trivial|exact zZ (by simp[zA])|apply And.intro) (by cbv;repeat' first|exact trivial|exact zZ (by simp[zA])|apply And.intro))) rfl rfl rfl rfl ?_;{cbv;exact⟨okA,okA,zG rfl,trivial⟩};{cbv;exact⟨lR,lR,zR (by rw[wZ,yU (by simp[zA]),e3]),trivial⟩}
def Ys (q:Rat):q<0↔q.num<0:=by have:=VT (zI q);grind [z6,CW]
def sW (q:Rat):(⟨false,(zI q).num,(zI q).den⟩:R)=zI (vI q):=by unfold vI;split;{rename_i h;have h3:q.num<0:=(Ys q).1 h;simp[zI,h3];omega};{rename_i h;have h3:¬q.num<0:=λg=>h ((Ys q).2 g);simp[zI,h3]}
def BO (raw:List UInt8)(n a:Nat):fdB raw (n+1) a=(((fdQ raw a).1,(fdQ raw a).1+vI (fdQ raw (fdQ raw a).2).1)::(fdB raw n (fdQ raw (fdQ raw a).2).2).1,(fdB raw n (fdQ raw (fdQ raw a).2).2).2):=rfl
def BM (raw:List UInt8)(a:Nat):fdB raw 0 a=([],a):=rfl
def FG (raw:List UInt8)(n a:Nat)(hr:raw.length<2^38)(ha:a<=raw.length)(hn:n<=100):Sound 251 [.ptr 1000000 0,iV n] (fdo raw a) [] (rgv (fdR raw n a).1.g) (fdo raw (fdR raw n a).2) []:=by
 refine sF Tryz.f251 ?_;have cQ:∀ b:Nat,b<=raw.length->Sound 116 [.ptr 1000000 0] (fdo raw b) [] (rv (zI (fdQ raw b).1)) (fdo raw (fdQ raw b).2) []:=λb h1=>J8 raw b hr h1;have cN:∀ b:Nat,b<=raw.length->Sound 117 [.ptr 1000000 0,iV 3] (fdo raw b) [] (iV ((fdN raw 3 b:Int))) (fdo raw (na raw b)) []:=λb h1=>aK raw b 3 hr (by decide) (by decide) h1;have cF:∀ b:Nat,b<=raw.length->Sound 50 [.ptr 1000000 0,iV n] (fdo raw b) [] (fv (fdF raw n b).1) (fdo raw (fdF raw n b).2) []:=λb h1=>UU raw n b hr h1 hn;have hFl:∀ b:Nat,b<=raw.length->(fdF raw n b).2<=raw.length:=λb h=>QA h;have hQl:∀ b:Nat,b<=raw.length->(fdQ raw b).2<=raw.length:=λb h=>i6 h;have hNl:∀ b:Nat,b<=raw.length->na raw b<=raw.length:=λb h=>dL h;have hN3:∀ b:Nat,fdN raw 3 b<3:=λb=>kP (by decide);have hG:fdR raw n a=(⟨(fdB raw n a).1,(fdL raw 0 (fdN raw 3 (fdB raw n a).2) n (na raw (fdB raw n a).2)).1⟩,(fdL raw 0 (fdN raw 3 (fdB raw n a).2) n (na raw (fdB raw n a).2)).2):=rfl;rw[hG];clear hG;obtain⟨U,hU⟩:=ex (fdB raw n a);rw[hU];obtain⟨O,hO⟩:=ex (fdL raw 0 (fdN raw 3 U.2) n (na raw U.2));rw[hO];have hUl:U.1.length=n:=by grind [QB]
 have hOl:O.1.length=fdN raw 3 U.2:=by grind [aW]
 obtain⟨LA,hLA⟩:∃ l,(U.1.map λb=>zI b.1)=l:=⟨_,rfl⟩;obtain⟨HA,hHA⟩:∃ l,(U.1.map λb=>zI b.2)=l:=⟨_,rfl⟩;obtain⟨OA,hOA⟩:=ex (O.1.map fA);obtain⟨bO,hbO⟩:=ex O.2;have hgoal:rgv (⟨U.1,O.1⟩:FReg).g=.agg [rlv LA,rlv HA,alv OA]:=by rw[<-hLA,<-hHA,<-hOA];rfl
 show wp _ _ (dU _ (rgv (⟨U.1,O.1⟩:FReg).g) (fdo raw O.2) []);rw[hgoal,hbO];clear hgoal;cbv;refine z7 (σ:=Nat×Nat×List (Rat×Rat)) (λs=>⟨[(0,.ptr 1000000 0),(1,iV n),(4,.ptr 4 0),(5,.ptr 5 0),(6,iV s.1)],
   [(1000000,.box [u8v raw,iV s.2.1]),(4,.box [.nil,.nil,.nil]),(5,.box [yX 24 3 s.2.2.length,yX 31 3 s.2.2.length,.nil]),(24,xF 3 (enc rc (s.2.2.map λb=>zI b.1))),(31,xF 3 (enc rc (s.2.2.map λb=>zI b.2)))]⟩)
  (λs=>s.1<=n/\s.2.1<=raw.length/\U.1=s.2.2++(fdB raw (n-s.1) s.2.1).1/\U.2=(fdB raw (n-s.1) s.2.1).2/\s.2.2.length=s.1) (λs=>n-s.1)
  (0,a,[]) ⟨by omega,ha,by grind,by grind,rfl⟩
  (.trans (.le (ps':=⟨[(0,.ptr 1000000 0),(1,iV n),(4,.ptr 4 0),(5,.ptr 5 0),(6,iV (((0:Nat):Int)))],
    [(1000000,.box [u8v raw,iV a]),(4,.box [.nil,.nil,.nil]),(5,.box [.nil,.nil,.nil])]⟩) okZ okZ rfl)
   (.trans (.adoptB (ps:=⟨[(0,.ptr 1000000 0),(1,iV n),(4,.ptr 4 0),(5,.ptr 5 0),(6,iV (((0:Nat):Int)))],
    [(1000000,.box [u8v raw,iV a]),(4,.box [.nil,.nil,.nil]),(5,.box [.nil,.nil,.nil])]⟩) (cs:=[.nil,.nil,.nil]) 24 3 5 0 rfl rfl rfl)
   (.trans (.le (ps':=⟨[(0,.ptr 1000000 0),(1,iV n),(4,.ptr 4 0),(5,.ptr 5 0),(6,iV (((0:Nat):Int)))],
    [(1000000,.box [u8v raw,iV a]),(4,.box [.nil,.nil,.nil]),(5,.box [yX 24 3 0,.nil,.nil]),(24,xF 3 ([]))]⟩) okZ (by cbv;exact⟨okA,okA,okA,zG rfl,trivial⟩) rfl)
   (.trans (.adoptB (ps:=⟨[(0,.ptr 1000000 0),(1,iV n),(4,.ptr 4 0),(5,.ptr 5 0),(6,iV (((0:Nat):Int)))],
    [(1000000,.box [u8v raw,iV a]),(4,.box [.nil,.nil,.nil]),(5,.box [yX 24 3 0,.nil,.nil]),(24,xF 3 ([]))]⟩) (cs:=[yX 24 3 0,.nil,.nil]) 31 3 5 1 rfl rfl rfl) (.le okZ ?_ rfl))))) ?_
 {cbv;exact⟨okA,okA,okA,zG rfl,zG rfl,trivial⟩};intro s hs;obtain⟨j,b,us⟩:=s;obtain⟨g1,g2,g3,g4,g5⟩:=hs;dsimp only at g1 g2 g3 g4 g5;cbv;refine zF (λh=>?_) (λh=>?_)
 ·(have hj:j<n:=om;rw[show n-j=(n-(j+1))+1 by omega,BO] at g3 g4;have q1:=cQ b g2;have hb1:=hQl b g2;have q2:=cQ (fdQ raw b).2 hb1;have hb2:=hQl (fdQ raw b).2 hb1;have f1:=jR raw b;have f2:=jR raw (fdQ raw b).2;generalize (fdQ raw (fdQ raw b).2).2=b2 at *;generalize (fdQ raw (fdQ raw b).2).1=y at *;generalize (fdQ raw b).2=b1 at *;generalize (fdQ raw b).1=x at *;have qa:=s44 (zI x) ⟨false,(zI y).num,(zI y).den⟩ ((zU f1).mono (by decide)) (by rw[sW];exact (zU (j8 f2)).mono (by decide));have e0:(⟨false,(zI y).num,(zI y).den⟩:R).q=vI y:=by rw[sW,z6]);rw[e0,z6] at qa
  (obtain⟨X1,hX1⟩:=ex (zI x);obtain⟨X2,hX2⟩:=ex (zI y);obtain⟨Y,hY⟩:=ex (zI (x+vI y));have d1:Sound 116 [.ptr 1000000 0] (fdo raw b) [] (rv X1) (fdo raw b1) []:=by simp_all);have d2:Sound 116 [.ptr 1000000 0] (fdo raw b1) [] (rv X2) (fdo raw b2) []:=by simp_all
  (have d3:zC 18 [rv X1,.agg [zL false,nat X2.num,nat X2.den]] (rv Y):=by subst hX1 hX2 hY;exact qa);clear q1 q2 qa e0
  cbv;refine kA (λ_=>1000000) d1 ?_;cbv;refine kA (λ_=>1000000) d2 ?_;cbv;refine Rp 13 [(4,24),(11,31)] (by cbv) (by cbv) ?_;cbv;refine Fa DF rfl ⟨by simp[zW,xT]⟩ rfl (by simp[zA]) (z8 (by simp[zW] <;> omega) (by simp[zW,zA];exact om)) ?_;cbv;refine dA d3 ?_;cbv;refine Fa DF rfl ⟨by simp[zW,xT]⟩ rfl (by simp[zA]) (z8 (by simp[zW] <;> omega) (by simp[zW,zA];exact om)) ?_;cbv;refine⟨zD om om,(j+1,b2,us++[(x,x+vI y)]),⟨om,hb2,by rw[g3];simp,by rw[g4],by simp[g5]⟩,(by show n-(j+1)<n-j;omega),.le okZ ?_ rfl⟩;cbv;refine⟨okA,okA,⟨zT rfl (by simp[zW,zA]),zT rfl (by simp[zW,zA]),lR,trivial⟩,zG ?_,zG ?_,trivial⟩;{subst hX1;show enc rc (us.map λb=>zI b.1)++zW [rc (zI x)]=enc rc ((us++[(x,x+vI y)]).map λb=>zI b.1);rw[bJ,gP];rfl};{subst hY;show enc rc (us.map λb=>zI b.2)++zW [rc (zI (x+vI y))]=enc rc ((us++[(x,x+vI y)]).map λb=>zI b.2);rw[bJ,gP];rfl}
 have hj:j=n:=om;subst hj;rw[W7,BM] at g3 g4;have e1:U.1=us:=by grind
 have e2:U.2=b:=g4;have hLs:(us.map λb=>zI b.1)=LA:=by grind
 have hHs:(us.map λb=>zI b.2)=HA:=by grind
 rw[e2] at hO hOl;have n3:=cN b g2;have n4:=hN3 b;have n5:=hNl b g2;generalize fdN raw 3 b=k at *;generalize na raw b=b1 at *;clear g3 g4 h hU hUl hLA hHA e1 e2 cQ cN;cbv;refine kA (λ_=>1000000) n3 ?_;cbv;refine z7 (σ:=Nat×Nat×List F) (λs=>⟨[(0,.ptr 1000000 0),(1,iV j),(4,.ptr 4 0),(5,.ptr 5 0),(9,iV s.1)],
   [(1000000,.box [u8v raw,iV s.2.1]),(4,.box [.nil,.nil,.nil]),(5,.box [rlv LA,rlv HA,yX 46 4 s.2.2.length]),(46,xF 4 (enc ac (s.2.2.map fA)))]⟩)
  (λs=>s.1<=k/\s.2.1<=raw.length/\O.1=s.2.2++(fdL raw 0 s.1 j s.2.1).1/\O.2=(fdL raw 0 s.1 j s.2.1).2) (λs=>s.1)
  (k,b1,[]) ⟨by omega,n5,by grind,by grind⟩
  (.trans (.frz 24 rfl rfl (by cbv;repeat' first|exact trivial|exact zZ (by simp[zA])|apply And.intro) (by cbv;repeat' first|exact trivial|exact zZ (by simp[zA])|apply And.intro))
   (.trans (.frz 31 rfl rfl (by cbv;repeat' first|exact trivial|exact zZ (by simp[zA])|apply And.intro) (by cbv;repeat' first|exact trivial|exact zZ (by simp[zA])|apply And.intro))
   (.trans (.le (ps':=⟨[(0,.ptr 1000000 0),(1,iV j),(4,.ptr 4 0),(5,.ptr 5 0),(9,iV k)],
    [(1000000,.box [u8v raw,iV b1]),(4,.box [.nil,.nil,.nil]),(5,.box [rlv LA,rlv HA,.nil])]⟩) okZ ?_ rfl)
   (.trans (.adoptB (ps:=⟨[(0,.ptr 1000000 0),(1,iV j),(4,.ptr 4 0),(5,.ptr 5 0),(9,iV k)],
    [(1000000,.box [u8v raw,iV b1]),(4,.box [.nil,.nil,.nil]),(5,.box [rlv LA,rlv HA,.nil])]⟩) (cs:=[rlv LA,rlv HA,.nil]) 46 4 5 2 rfl rfl rfl) (.le okZ ?_ rfl))))) ?_
 {cbv;exact⟨okA,okA,⟨zR (by rw[wZ,yU (by simp[zA]),hLs]),zR (by rw[wZ,yU (by simp[zA]),hHs]),lR,trivial⟩,trivial⟩};{cbv;exact⟨okA,okA,okA,zG rfl,trivial⟩};clear g2 hLs hHs n3;intro s hs;obtain⟨i,b,os⟩:=s;obtain⟨g1',g2,g3,g4⟩:=hs;dsimp only at g1' g2 g3 g4;cbv;refine zF (λh=>?_) (λh=>?_)
 ·(obtain⟨m,hm⟩:∃ m,i=m+1:=⟨i-1,by exact om⟩;subst hm;rw[Wy] at g3 g4;have cf:=cF b g2;have hb':=hFl b g2;generalize hFF:fdF raw j b=FF at *;obtain⟨W,hW⟩:=ex (fA FF.1);obtain⟨b',hbb⟩:=ex FF.2;have d1:Sound 50 [.ptr 1000000 0,iV j] (fdo raw b) [] (av W) (fdo raw b') []:=by simp_all);rw[hbb] at g3 g4 hb'
  clear cf;cbv;refine vP 6 [(4,1000000)] (by cbv) (by cbv) (by cbv) ?_;cbv;refine WA (λ_=>1000000) rfl okA d1 rfl rfl rfl rfl rfl rfl ?_;cbv;refine wM JP rfl rfl rfl (by simp[zA]) rfl ⟨by simp[zW,xT]⟩ (z8 oM (by have hos:os.length<k:=(by grind);simp[zW,zA];exact om)) rfl ?_;cbv;refine⟨zD om om,(m,b',os++[FF.1]),⟨om,hb',by grind,by omega⟩,oM,.le okZ ?_ rfl⟩;cbv;refine⟨okA,okA,⟨lR,lR,zT rfl (by simp[zW,zA]),trivial⟩,zG ?_,trivial⟩;subst hW;show enc ac (os.map fA)++zW [ac (fA FF.1)]=enc ac ((os++[FF.1]).map fA);rw[bJ,gP];rfl
 ·(have hi:i=0:=om;subst hi;rw[Wx] at g3 g4;have e1:O.1=os:=by grind);have e2:O.2=b:=g4
  (have e3:os.map fA=OA:=by grind);have e4:b=bO:=by omega
  subst e4;cbv;refine Yo (.trans (.le (ps':=⟨[(4,.ptr 4 0)],[(1000000,.box [u8v raw,iV b]),(4,.box [rlv LA,rlv HA,yX 46 4 os.length]),(46,xF 4 (enc ac (os.map fA)))]⟩) okZ ?_ rfl) (.frz 46 rfl rfl (by cbv;repeat' first|exact trivial|exact zZ (by simp[zA])|apply And.intro) (by cbv;repeat' first|exact trivial|exact zZ (by simp[zA])|apply And.intro))) rfl rfl rfl rfl ?_;{cbv;exact⟨okA,okA,zG rfl,trivial⟩};{cbv;exact⟨lR,lR,zR (by rw[wZ,yU (by simp[zA]),e3]),trivial⟩}
def Na (raw:List UInt8)(a:Nat)(hr:raw.length<2^38)(ha:a<=raw.length):Sound 201 [.ptr 1000000 0] (fdo raw a) [] (qv (fdY raw a).1.q) (fdo raw (fdY raw a).2) []:=by
 refine sF Tryz.f201 ?_;have c1:=D6 raw a hr ha;have s1:=Uk raw a;have b1:=BH (raw:=raw) ha;have c2:=FG raw (fdG raw a).1.n (fdG raw a).2 hr b1 (by have:=s1.n2;omega);have b2:=BC (raw:=raw) (n:=(fdG raw a).1.n) b1;have c3:=UU raw ((fdG raw a).1.n+(fdG raw a).1.us.length) (fdR raw (fdG raw a).1.n (fdG raw a).2).2 hr b2 (by have:=s1.n2;have:=s1.us;omega);have hY:fdY raw a=(⟨(fdG raw a).1,(fdR raw (fdG raw a).1.n (fdG raw a).2).1,(fdF raw ((fdG raw a).1.n+(fdG raw a).1.us.length) (fdR raw (fdG raw a).1.n (fdG raw a).2).2).1⟩,(fdF raw ((fdG raw a).1.n+(fdG raw a).1.us.length) (fdR raw (fdG raw a).1.n (fdG raw a).2).2).2):=rfl;rw[hY];clear hY;have n2:=s1.n2;have u4:=s1.us;generalize fdG raw a=G at *;generalize fdR raw G.1.n G.2=Rr at *;generalize fdF raw (G.1.n+G.1.us.length) Rr.2=H at *;obtain⟨⟨gn,gus,gos⟩,gb⟩:=G;obtain⟨rr,rb⟩:=Rr;obtain⟨h,hb⟩:=H;dsimp only at c1 c2 c3 n2 u4;obtain⟨UA,hUA⟩:=ex (gus.map fA);obtain⟨OA,hOA⟩:=ex (gos.map fA);obtain⟨W,hW⟩:=ex (fA h);obtain⟨⟨lo,hi,rows⟩,hRR⟩:∃ r,rr.g=r:=⟨_,rfl⟩;have ul:UA.length=gus.length:=by grind
 have d1:Sound 250 [.ptr 1000000 0] (fdo raw a) [] (.agg [iV gn,alv UA,alv OA]) (fdo raw gb) []:=by subst hUA hOA;exact c1
 have d2:Sound 251 [.ptr 1000000 0,iV gn] (fdo raw gb) [] (.agg [rlv lo,rlv hi,alv rows]) (fdo raw rb) []:=by simp_all
 have d3:Sound 50 [.ptr 1000000 0,iV (((gn+gus.length:Nat):Int))] (fdo raw rb) [] (av W) (fdo raw hb) []:=by subst hW;exact c3
 have hgoal:qv (⟨⟨gn,gus,gos⟩,rr,h⟩:FQry).q=.agg [iV gn,alv UA,alv OA,rlv lo,rlv hi,alv rows,tsv W.ts,zL W.c.neg,nat W.c.num,nat W.c.den]:=by subst hUA hOA hW;show qv (⟨_,rr.g,_⟩:Qry)=_;rw[hRR];rfl
 show wp _ _ (dU _ (qv (⟨⟨gn,gus,gos⟩,rr,h⟩:FQry).q) (fdo raw hb) []);rw[hgoal];clear hgoal c1 c2 c3 hUA hOA hW hRR b1 b2 s1;cbv;refine kA (λ_=>1000000) d1 ?_;cbv;refine kA (λ_=>1000000) d2 ?_;cbv;refine vP 10 [(9,1000000)] (by cbv) (by cbv) (by cbv) ?_;cbv;refine⟨zD (by rw[zA];exact om) (by rw[zA];exact om),?_⟩;cbv;refine WA (λ_=>1000000) rfl (by refine⟨lR,zB ?_,trivial⟩;rw[zA,ul];exact om) d3 rfl rfl rfl rfl rfl rfl ?_;cbv;exact Yo (.refl _) rfl rfl rfl rfl (by cbv;exact okA)
end Go.Proofs.YtaeaffgjdcigoaaGreat
