/- A part of the proof: RtA, FdA, FdB. -/
import Derived.Test.YtaeaffgjdcigoaaGreatC22
import Derived.Test.YtaeaffgjdcigoaaGreatC24
import Derived.Test.YtaeaffgjdcigoaaGreatC27
import Derived.Test.YtaeaffgjdcigoaaGreatC28
set_option linter.all false
namespace Go.Proofs.YtaeaffgjdcigoaaGreat
open Go
set_option maxRecDepth 100000
set_option maxHeartbeats 4000000
theorem zN2 (s:Scp)(n unit:Int)(up:Bool)(hs:Lsz (2^32) s.lems):zE 281 [sv s,.int .i64 (fun _=>n),.int .i64 (fun _=>unit),.bool (fun _=>up)] (.tup [rv (zJ ((s.lem n unit up).getD 0)),.bool (fun _=>(s.lem n unit up).isSome)]):=by
 refine sF Tryz.f281 ?_;have hno:=fun h=>zS7 (s:=s) (n:=n) (unit:=unit) (up:=up) h;have hat:=fun (m:Lem) h1 h2 h3=>zM8 (s:=s) (n:=n) (unit:=unit) (up:=up) (m:=m) h1 h2 h3;have hsl:=hs.len;have hss:=hs.sz;generalize s.lem n unit up=o at *
 obtain⟨⟨⟨gn,us,os⟩,⟨lo,hi,rows⟩,⟨ts,c1,c2,c3⟩⟩,path,lems⟩:=s;simp only at hno hat hsl hss;have fin:∀ (W:R) (b:Bool),o=none->W=zJ (o.getD 0)/\b=o.isSome->W=R0/\b=false:=fun W b h1 h2=>by rw[h1] at h2;exact⟨by rw[h2.1];exact u6,h2.2⟩
 obtain⟨W,hW⟩:∃ W,W=zJ (o.getD 0):=⟨_,rfl⟩;obtain⟨b,hb⟩:∃ b,b=o.isSome:=⟨_,rfl⟩;rw[<-hW,<-hb];have fin':o=none->W=R0/\b=false:=fun h=>fin W b h ⟨hW,hb⟩;have fin2:∀ q,o=some q->W=zJ q/\b=true:=fun q h=>by rw[h] at hW hb;exact⟨hW,hb⟩
 clear fin hW hb;obtain⟨W1,W2,W3⟩:=W;have fin3:o=none->W1=false/\W2=[]/\W3=[]/\b=false:=fun h=>by obtain⟨h1,h2⟩:=fin' h;simp only[R.mk.injEq] at h1;exact⟨h1.1,h1.2.1,h1.2.2,h2⟩
 clear fin';cbv;refine zQ (fun e1=>?_) (fun e1=>?_)
 ·cbv;obtain⟨g1,g2,g3,g4⟩:=fin3 (hno oM);subst g1 g2 g3 g4
  (refine rC ?_;cbv)
  exact okA
 cbv;refine zQ (fun e2=>?_) (fun e2=>?_)
 ·cbv;obtain⟨g1,g2,g3,g4⟩:=fin3 (hno (by rw[zA] at e2;(try dsimp only [zF] at *);omega));subst g1 g2 g3 g4
  (refine rC ?_;cbv)
  exact okA
 cbv;rw[zA] at e2;obtain⟨m,hm⟩:∃ m,lems[(n-1).toNat]?=some m:=zT om;have hat':=hat m oM om hm;have hms:=hss m (yA hm);have cc:=s47 m.v hms;have idx:∀ {K:List PV->Prop},K (lc m)->IdxOk 6 (fun _=>enc lc lems) (fun _=>n-1) K:=fun hK=>xU (l:=lems) (n-1).toNat oM om xX wJ (fun m' hm'=>by rw[hm] at hm';cases hm';exact hK);generalize hq:m.v.q=q at *
 obtain⟨mu,mup,⟨v1,v2,v3⟩,mpf⟩:=m;simp only at hat';clear hat hno hq;generalize hwq:zJ q=wq at *
 refine⟨zD om om,idx ?_⟩;cbv;refine zQ (fun e3=>?_) (fun e3=>?_)
 ·cbv;refine⟨zD om om,idx ?_⟩;cbv;refine zG (fun e4=>?_) (fun e4=>?_)
  ·cbv;obtain⟨g1,g2⟩:=fin2 q (by rw[hat',if_pos ⟨e3,e4⟩]);rw[hwq] at g1;subst g1 g2;refine⟨zD om om,idx ?_⟩;cbv;refine cA cc ?_;cbv
   (refine rC ?_;cbv)
   exact okA
  ·cbv;obtain⟨g1,g2,g3,g4⟩:=fin3 (by rw[hat',if_neg (fun h=>e4 h.2)]);subst g1 g2 g3 g4
   (refine rC ?_;cbv)
   exact okA
 ·cbv;obtain⟨g1,g2,g3,g4⟩:=fin3 (by rw[hat',if_neg (fun h=>e3 h.1)]);subst g1 g2 g3 g4
  (refine rC ?_;cbv)
  exact okA
theorem eU (s:Scp)(kind unit:Int)(hs:Dsz (2^32) s.path):zE 169 [sv s,.int .i64 (fun _=>kind),.int .i64 (fun _=>unit)] (.bool (fun _=>s.dcd kind unit)):=by
 refine sF Tryz.f169 ?_;have cf:∀ d,d∈s.path->zE 163 [qv s.q,dv d] (.bool (fun _=>d.fits s.q)):=fun d h=>zMY s.q d (hs.sz d h);have hpl:=hs.len;generalize hr:s.dcd kind unit=r;have hr0:r=(s.path.drop 0).any (fun d=>decide (d.k=kind)&&(decide (d.i=unit)&&d.fits s.q)):=hr.symm;obtain⟨ft,hft⟩:∃ ft:Dec->Bool,∀ d,ft d=d.fits s.q:=⟨_,fun _=>rfl⟩;simp only[<-hft] at cf hr0;obtain⟨P,hP⟩:∃ P:Dec->Bool,(fun d=>decide (d.k=kind)&&(decide (d.i=unit)&&ft d))=P:=⟨_,rfl⟩;rw[hP] at hr0;have hPd:∀ d,P d=(decide (d.k=kind)&&(decide (d.i=unit)&&ft d)):=fun d=>by rw[<-hP]
 clear hP hft hr hs;cbv;refine z3 (σ:=Nat) (fun i=>⟨[(1,.int .i64 (fun _=>kind)),(2,.int .i64 (fun _=>unit)),(3,.ptr 3 0),(7,.int .i64 (fun _=>(i:Int)))],[(3,.box (sc s))]⟩) (fun i=>i<=s.path.length/\r=(s.path.drop i).any P) (fun i=>s.path.length-i) 0 ⟨by omega,hr0⟩ (wkZ) ?_;clear hr0;intro i hi;obtain⟨h1,h2⟩:=hi;cbv;refine zG (fun h5=>?_) (fun h5=>?_)
 ·have hlt:=gU h5;obtain⟨d,hd⟩:=zT hlt;have cv:=cf d (yA hd);rw[zY hd,List.any_cons,hPd] at h2;generalize ft d=fd at *
  generalize hrest:(s.path.drop (i+1)).any P=rest at *
  cbv;refine zN 28 (by cbv) ?_;cbv;refine yX hd qM jH ?_;cbv;refine zQ (fun e1=>?_) (fun e1=>?_)
  rotate_left
  {rw[decide_eq_false e1,kJ,sI] at h2;cbv;exact⟨zD om om,i+1,⟨om,by rw[h2,hrest]⟩,om,wkZ⟩};rw[decide_eq_true e1,yU] at h2;cbv;refine yX hd qM jH ?_;cbv;refine zQ (fun e2=>?_) (fun e2=>?_)
  rotate_left
  {rw[decide_eq_false e2,kJ,sI] at h2;cbv;exact⟨zD om om,i+1,⟨om,by rw[h2,hrest]⟩,om,wkZ⟩};rw[decide_eq_true e2,yU] at h2;cbv;refine yX hd qM jH ?_;cbv;refine dA cv ?_;cbv;refine zP (fun e3=>?_) (fun e3=>?_)
  ·rw[e3,zLF] at h2;cbv
   (refine rC ?_;cbv)
   exact yN h2
  {rw[e3,sI] at h2;cbv;exact⟨zD om om,i+1,⟨om,by rw[h2,hrest]⟩,om,wkZ⟩}
 ·have he:=bJ h5 h1;rw[he,w4] at h2;have h2':r=false:=h2;cbv
  (refine rC ?_;cbv)
  exact zM h2'
theorem zQF {f g:F}(hf:Cn f.ts)(hg:Cn g.ts){k n k' n':Nat}(h1:f.fl k n)(h2:g.fl k' n')(hk:k<=2^26)(hk':k'<=2^26)(hn:n<=2^35)(hn':n'<=2^35):zE 118 [fv f,fv g] (fv (f.add g)):=by have h:=zSS f.ts (zJ f.c) (fA g) hf (by rw[show (fA g).ts=tR g.ts from rfl,zL8];exact hg) ⟨by have:=h1.len;omega,fun t ht=>(h1.t t ht).mono oM⟩ ((zU h1.c).mono oM) ((zMF h2 oM).mono oM) (by have:=h1.len;have:=h2.len;rw[show (fA g).ts=tR g.ts from rfl,vI];omega);rw[kY,z6] at h;exact h
theorem zK7 {f g:F}(hf:Cn f.ts)(hg:Cn g.ts){k n k' n':Nat}(h1:f.fl k n)(h2:g.fl k' n')(hk:k<=2^26)(hk':k'<=2^26)(hn:n<=2^35)(hn':n'<=2^35):zE 164 [fv f,fv g] (fv (f.sub g)):=by have h:=zMX f.ts (zJ f.c) (fA g) hf (by rw[show (fA g).ts=tR g.ts from rfl,zL8];exact hg) ⟨by have:=h1.len;omega,fun t ht=>(h1.t t ht).mono oM⟩ ((zU h1.c).mono oM) ((zMF h2 oM).mono oM) (by have:=h1.len;have:=h2.len;rw[show (fA g).ts=tR g.ts from rfl,vI];omega);rw[kY,z6] at h;exact h
theorem dX {f:F}{q:Rat}{k n m:Nat}(h1:f.fl k n)(hq:Fits m q)(hk:k<=2^31)(hn:n<=2^35)(hm:m<=2^31):zE 100 [fv f,rv (zJ q)] (fv (f.scale q)):=by have h:=zD2 (fA f) (zJ q) ((zMF h1 oM).mono oM) ((zU hq).mono oM);rw[kY,z6] at h;exact h
theorem yAI (q:Rat):zE 165 [rv (zJ q)] (fv (F.num q)):=zBR (zJ q)
theorem zQG {x:R}(h:x.ok=true):zJ x.q=x:=(of_decide_eq_true h).symm
theorem zJJ {vars:Int}:∀ {ts:List (Int×R)} {p:Int},vT vars p ts=true->tR (tq ts)=ts/\Cn (tq ts)/\∀ t,t∈tq ts->p<t.1
 |[],p,_=>⟨rfl,Cn.nil,fun t h=>absurd h (by simp[tq])⟩| t::r,p,h=>by rw[zC5] at h;simp only[yT,decide_eq_true_eq] at h;obtain⟨⟨⟨⟨⟨h1,h2⟩,h3⟩,h4⟩,h5⟩,h6⟩:=h;obtain⟨g1,g2,g3⟩:=zJJ h6;refine⟨?_,?_,fun u hu=>?_⟩;{show (t.1,zJ t.2.q)::tR (tq r)=t::r;rw[g1,zQG h5]};{exact Cn.cons (t:=(t.1,t.2.q)) g2 g3 h4};{rcases yI.1 hu with rfl|hu;{exact h3};{have:=g3 u hu;omega}}
theorem tM {a:A}{vars:Int}(h:a.valid vars=true):fA a.f=a/\Cn a.f.ts:=by unfold A.valid at h;simp only[yT] at h;obtain⟨g1,g2,_⟩:=zJJ h.1;refine⟨?_,g2⟩;obtain⟨ts,c⟩:=a;show (⟨tR (tq ts),zJ c.q⟩:A)=⟨ts,c⟩;rw[g1,zQG h.2]
theorem add_zero {f:F}(h:Cn f.ts):f.add F.zero=f:=by refine F.ext' ?_ ?_;{refine (Cn.mrg h Cn.nil).ext h (fun v=>?_);show co (mrg 1 f.ts []) v=_;rw[dQ];simp only[co];grind};{show f.c+0*1=f.c;grind}
structure Qry.can (q:Qry):Prop where
 us:∀ a,a∈q.g.us->fA a.f=a/\Cn a.f.ts
 os:∀ a,a∈q.g.os->fA a.f=a/\Cn a.f.ts
 rows:∀ a,a∈q.r.rows->fA a.f=a/\Cn a.f.ts
 lo:∀ x,x∈q.r.lo->zJ x.q=x
 hi:∀ x,x∈q.r.hi->zJ x.q=x
theorem zZ1:∀ {lo hi:List R},lo.length=hi.length->vB lo hi=true->(∀ x,x∈lo->zJ x.q=x)/\∀ x,x∈hi->zJ x.q=x:=fun he h=>by rw[zDL he] at h;simp only[yT,tG] at h;exact⟨fun x hx=>zQG (h.1 x hx),fun x hx=>zQG (h.2.1 x hx)⟩
theorem Qry.can_of {q:Qry}(h:q.valid=true):q.can:=by unfold Qry.valid Grp.valid Reg.valid at h;simp only[yT,decide_eq_true_eq,tG] at h;obtain⟨⟨⟨⟨h1,h2⟩,h3⟩,⟨h4,h5⟩,h6⟩,h7⟩:=h;obtain⟨b1,b2⟩:=zZ1 oM h5;refine⟨fun a ha=>?_,fun a ha=>tM (h3 a ha),fun a ha=>tM (h6 a ha),b1,b2⟩;obtain⟨j,_,hj⟩:=zMQ h2 ha;exact tM hj
def u8c (b:UInt8):List PV:=[.int .u8 (fun _=>(b.toNat:Int))]
theorem eK (b:UInt8):yR qW (u8c b)=true:=rfl
theorem eJ (b:UInt8):(u8c b).length=1:=rfl
abbrev u8v (raw:List UInt8):PV:=.sl (fun _=>enc u8c raw)
abbrev fdo (raw:List UInt8) (a:Nat):List (Nat×Obj'):=[(1000000,.box [u8v raw,.int .i64 (fun _=>(a:Int))])]
theorem bW (raw:List UInt8)(a n:Nat)(hr:raw.length<2^38)(hn:0<n)(hn2:n<2^60)(ha:a<=raw.length):Sound 117 [.ptr 1000000 0,.int .i64 (fun _=>(n:Int))] (fdo raw a) [] (.int .i64 (fun _=>(fdN raw n a:Int))) (fdo raw (na raw a)) []:=by
 refine sF Tryz.f117 ?_;have h0:¬a<raw.length->fdN raw n a=0:=fun h=>by unfold fdN;rw[bE oM]
 have h1:∀ x,raw[a]?=some x->fdN raw n a=x.toNat%n:=fun x h=>by unfold fdN;rw[h]
 have n0:¬a<raw.length->na raw a=a:=fun h=>if_neg h;have n1:a<raw.length->na raw a=a+1:=fun h=>if_pos h;generalize fdN raw n a=r at *
 generalize na raw a=b at *
 cbv;refine zN 10 (by cbv) ?_;cbv;refine zG (fun h=>?_) (fun h=>?_)
 ·(have hlt:¬a<raw.length:=by rw[zA] at h;(try dsimp only [zF] at *);omega);have e1:=h0 hlt
  have e2:=n0 hlt;cbv;subst e1 e2;exact lL rfl (lR) rfl rfl rfl rfl
 ·(have hlt:a<raw.length:=by rw[zA] at h;(try dsimp only [zF] at *);omega);obtain⟨x,hx⟩:=zT hlt
  (have e1:=h1 x hx;have e2:=n1 hlt;cbv;refine⟨zD om om,?_⟩;cbv;refine zN 15 (by cbv) ?_;cbv;refine⟨zD om om,xU (l:=raw) a om hlt eK eJ (fun x' hx'=>?_)⟩;obtain rfl:x'=x:=by rw[hx] at hx';exact (vN hx').symm);have hx8:=x'.toNat_lt
  cbv;refine⟨uA om,?_⟩;cbv;refine zBS (.le (ps':=⟨[(4,.int .i64 (fun _=>(r:Int)))],[(1000000,.box [u8v raw,.int .i64 (fun _=>(b:Int))])]⟩) ?_ ?_ rfl) rfl (lR) rfl rfl rfl rfl;{cbv;refine⟨zC ?_,trivial⟩;show irem (nx .i64 (x'.toNat:Int)) (n:Int)=_;unfold irem nx;rw[show IntKind.wrap .i64 (x'.toNat:Int)=(x'.toNat:Int) by simp[IntKind.wrap,IntKind.signed,IntKind.bits];omega,e1];exact (Int.ofNat_tmod _ _).symm};{cbv;exact⟨⟨lR,zC om,trivial⟩,trivial⟩}
theorem zP3 {k:Nat}(h:k<4):(k=0/\dnm k=1)\/(k=1/\dnm k=1)\/(k=2/\dnm k=2)\/(k=3/\dnm k=4):=by
 match k,h with
 |0,_=>exact .inl ⟨rfl,rfl⟩| 1,_=>exact .inr (.inl ⟨rfl,rfl⟩)| 2,_=>exact .inr (.inr (.inl ⟨rfl,rfl⟩))| 3,_=>exact .inr (.inr (.inr ⟨rfl,rfl⟩))
theorem zM0 (raw:List UInt8)(a:Nat)(hr:raw.length<2^38)(ha:a<=raw.length):Sound 116 [.ptr 1000000 0] (fdo raw a) [] (rv (zJ (fdQ raw a).1)) (fdo raw (fdQ raw a).2) []:=by
 refine sF Tryz.f116 ?_;have c9:=bW raw a 9 hr (by decide) (by decide) ha;have c4:=bW raw (na raw a) 4 hr (by decide) (by decide) (dD ha);have h9:fdN raw 9 a<9:=kX (by decide);have h4:fdN raw 4 (na raw a)<4:=kX (by decide);have hd:=zP3 h4;have hp:=zOX (fdN raw 4 (na raw a));have cf:=s43 ((fdN raw 9 a:Int)-4) (dnm (fdN raw 4 (na raw a))) oM oM oM oM oM;have e1:(fdQ raw a).1=iO ((fdN raw 9 a:Int)-4) (dnm (fdN raw 4 (na raw a))):=rfl;have e2:(fdQ raw a).2=na raw (na raw a):=rfl;rw[e1,e2];show wp _ _ (dK _ (rv (zJ (iO ((fdN raw 9 a:Int)-4) (dnm (fdN raw 4 (na raw a)))))) (fdo raw (na raw (na raw a))) []);generalize zJ (iO ((fdN raw 9 a:Int)-4) (dnm (fdN raw 4 (na raw a))))=X at *
 generalize dnm (fdN raw 4 (na raw a))=d at *
 generalize fdN raw 9 a=k9 at *
 generalize fdN raw 4 (na raw a)=k4 at *
 generalize na raw (na raw a)=b2 at *
 generalize na raw a=b1 at *
 clear e1 e2 hp;cbv;refine y0 (fun _=>1000000) (.refl _) rfl okA c9 ⟨⟨rfl,rfl⟩,trivial⟩ rfl rfl rfl rfl rfl rfl rfl rfl ?_;cbv;refine⟨zD om om,?_⟩;cbv;refine y0 (fun _=>1000000) (.refl _) rfl okA c4 ⟨⟨rfl,rfl⟩,trivial⟩ rfl rfl rfl rfl rfl rfl rfl rfl ?_;rcases hd with⟨q1,q2⟩|⟨q1,q2⟩|⟨q1,q2⟩|⟨q1,q2⟩;{subst q1 q2;cbv;refine bB 0 rfl (by decide) ?_;cbv;refine cA cf ?_;cbv;exact zE1 (.refl _) rfl rfl rfl rfl (by cbv;exact okA)};{subst q1 q2;cbv;refine bB 1 rfl (by decide) ?_;cbv;refine cA cf ?_;cbv;exact zE1 (.refl _) rfl rfl rfl rfl (by cbv;exact okA)};{subst q1 q2;cbv;refine bB 2 rfl (by decide) ?_;cbv;refine cA cf ?_;cbv;exact zE1 (.refl _) rfl rfl rfl rfl (by cbv;exact okA)};{subst q1 q2;cbv;refine bB 3 rfl (by decide) ?_;cbv;refine cA cf ?_;cbv;exact zE1 (.refl _) rfl rfl rfl rfl (by cbv;exact okA)}
theorem zLZ {raw:List UInt8}{n v:Nat}{f:F}{a:Nat}(h:¬0<fdN raw 3 a):tK raw (n+1) v f a=tK raw n (v+1) f (na raw a):=if_neg h
theorem zLY {raw:List UInt8}{n v:Nat}{f:F}{a:Nat}(h:0<fdN raw 3 a):tK raw (n+1) v f a=tK raw n (v+1) (f.add ((F.var v).scale (fdQ raw (na raw a)).1)) (fdQ raw (na raw a)).2:=if_pos h
theorem zC7 (raw:List UInt8)(n a:Nat)(hr:raw.length<2^38)(ha:a<=raw.length)(hn:n<=100):Sound 50 [.ptr 1000000 0,.int .i64 (fun _=>(n:Int))] (fdo raw a) [] (fv (fdF raw n a).1) (fdo raw (fdF raw n a).2) []:=by
 refine sF Tryz.f50 ?_;have cq:∀ b,b<=raw.length->Sound 116 [.ptr 1000000 0] (fdo raw b) [] (rv (zJ (fdQ raw b).1)) (fdo raw (fdQ raw b).2) []:=fun b hb=>zM0 raw b hr hb;have c3:∀ b,b<=raw.length->Sound 117 [.ptr 1000000 0,.int .i64 (fun _=>(3:Int))] (fdo raw b) [] (.int .i64 (fun _=>(fdN raw 3 b:Int))) (fdo raw (na raw b)) []:=fun b hb=>bW raw b 3 hr (by decide) (by decide) hb;have hna:∀ b,b<=raw.length->na raw b<=raw.length:=fun b hb=>dD hb;have hq2:∀ b,b<=raw.length->(fdQ raw b).2<=raw.length:=fun b hb=>iN hb;have hd:fdF raw n a=tK raw n 0 (F.num (fdQ raw a).1) (fdQ raw a).2:=rfl;show wp _ _ (dK _ (av (fA (fdF raw n a).1)) (fdo raw (fdF raw n a).2) []);generalize fdF raw n a=R at *
 obtain⟨W,hW⟩:∃ W,fA R.1=W:=⟨_,rfl⟩;rw[hW];obtain⟨X0,hX0⟩:∃ X,zJ (fdQ raw a).1=X:=⟨_,rfl⟩;have cq0:Sound 116 [.ptr 1000000 0] (fdo raw a) [] (rv X0) (fdo raw (fdQ raw a).2) []:=by subst hX0;exact cq a ha
 cbv;refine y0 (fun _=>1000000) (.refl _) rfl okA cq0 ⟨⟨rfl,rfl⟩,trivial⟩ rfl rfl rfl rfl rfl rfl rfl rfl ?_;cbv;refine z3 (σ:=Nat×Nat×F) (fun s=>⟨[(0,.ptr 1000000 0),(1,.int .i64 (fun _=>(n:Int))),(4,.ptr 4 0),(5,.ptr 5 0),(6,.int .i64 (fun _=>(s.1:Int)))],
   [(1000000,.box [u8v raw,.int .i64 (fun _=>(s.2.1:Int))]),(4,.box [.nil,.ff,.nil,.nil]),(5,.box [.sl (fun _=>enc tc (fA s.2.2).ts),.bool (fun _=>(fA s.2.2).c.neg),.sl (fun _=>lm (fA s.2.2).c.num),.sl (fun _=>lm (fA s.2.2).c.den)])]⟩)
  (fun s=>s.1<=n/\s.2.1<=raw.length/\R=tK raw (n-s.1) s.1 s.2.2 s.2.1/\s.2.2.wf s.1/\s.2.2.fl (1+6*s.1) s.1) (fun s=>n-s.1)
  (0,(fdQ raw a).2,F.num (fdQ raw a).1) ⟨by omega,hq2 a ha,hd,F.wf.num _ _,(kW (jG raw a)).mono oM oM⟩ (.le ?_ ?_ rfl) ?_
 {cbv;exact okA};{cbv;subst hX0;exact okA};clear hd cq0 hX0;intro s hs;obtain⟨v,b,f⟩:=s;obtain⟨g1,g2,g3,g4,g5⟩:=hs;dsimp only at g1 g2 g3 g4 g5;cbv;refine zG (fun h=>?_) (fun h=>?_)
 ·have hv:v<n:=om;rw[show n-v=(n-(v+1))+1 by omega] at g3;have c3':=c3 b g2;generalize hk3:fdN raw 3 b=k3 at *
  cbv;refine y0 (fun _=>1000000) (.refl _) rfl okA c3' ⟨⟨rfl,rfl⟩,trivial⟩ rfl rfl rfl rfl rfl rfl rfl rfl ?_;cbv;refine zG (fun h2=>?_) (fun h2=>?_)
  ·rw[zLY (by rw[hk3];(try dsimp only [zF] at *);omega)] at g3;have hq:=jG raw (na raw b);have hb':=hq2 (na raw b) (hna b g2);have cn:=cq (na raw b) (hna b g2);have csc:=dX (f:=F.var v) (gL v) hq (by decide) (by decide) (by decide);have w2:((F.var v).scale (fdQ raw (na raw b)).1).wf ((v+1:Nat):Int):=(F.wf.var oM oM).scale;have l2:((F.var v).scale (fdQ raw (na raw b)).1).fl (1+1+2) 1:=(gL v).scale hq;have cad:=zQF g4.cn w2.cn g5 l2 oM oM oM oM;have w3:=(g4.mono (by omega:(v:Int)<=((v+1:Nat):Int))).add w2;have l3:=(g5.add l2).mono (k':=1+6*(v+1)) (n':=v+1) oM oM;generalize (fdQ raw (na raw b)).2=b' at *
   generalize (fdQ raw (na raw b)).1=q at *
   generalize hS:(F.var v).scale q=S at *
   generalize hT:f.add S=T at *
   (obtain⟨V,hV⟩:∃ V,fA (F.var v)=V:=⟨_,rfl⟩;obtain⟨S',hS'⟩:∃ S',fA S=S':=⟨_,rfl⟩;obtain⟨T',hT'⟩:∃ T',fA T=T':=⟨_,rfl⟩;obtain⟨X,hX⟩:∃ X,zJ q=X:=⟨_,rfl⟩;obtain⟨f',hf'⟩:∃ f',fA f=f':=⟨_,rfl⟩;have d1:zE 119 [.int .i64 (fun _=>(v:Int))] (av V):=by subst hV;exact zFA v);have d2:zE 100 [av V,rv X] (av S'):=by subst hV hX hS';exact csc
   (have d3:zE 118 [av f',av S'] (av T'):=by subst hf' hS' hT';exact cad);have d4:Sound 116 [.ptr 1000000 0] (fdo raw (na raw b)) [] (rv X) (fdo raw b') []:=by subst hX;exact cn
   rw[hf'];clear hV hX hS' csc cad cn;cbv;refine vC 6 [(4,1000000)] (by cbv) (by cbv) (by cbv) ?_;cbv;refine dA d1 ?_;cbv;refine zFJ (fun _=>1000000) rfl okA d4 rfl rfl rfl rfl rfl rfl ?_;cbv;refine dA d2 ?_;cbv;refine cA d3 ?_;cbv;refine⟨zD om om,(v+1,b',T),⟨om,hb',g3,w3,l3⟩,om,.le okZ ?_ rfl⟩;subst hT';exact okZ
  ·rw[zLZ (by rw[hk3];(try dsimp only [zF] at *);omega)] at g3;have hb':=hna b g2;generalize na raw b=b' at *
   cbv;exact⟨zD om om,(v+1,b',f),⟨om,hb',g3,g4.mono (by show (v:Int)<=((v+1:Nat):Int);omega),g5.mono (by show 1+6*v<=1+6*(v+1);omega) (by show v<=v+1;omega)⟩,(by show n-(v+1)<n-v;omega),wkZ⟩
 ·(have hv:v=n:=om;have hR:R=(f,b):=by rw[g3,show n-v=0 by omega];rfl);subst hR
  have hW':fA f=W:=hW;cbv;subst hW';exact zE1 (.refl _) rfl rfl rfl rfl (by cbv;exact okA)
theorem zZ5:ty 22=.sli 1 1 [.int .u8 (fun _=>0)]:=by cbv
theorem zMS:ty 24=.sli 4 80 [.nil,.ff,.nil,.nil]:=by cbv
theorem zSG:ty 27=.sli 3 56 [.ff,.nil,.nil]:=by cbv
theorem zST (raw:List UInt8)(hr:raw.length<2^38):Sound 49 [u8v raw] [] [] (.ptr 100 0) [] [(100,.box [u8v raw,.int .i64 (fun _=>((0:Nat):Int))])]:=by
 refine sF Tryz.f49 ?_;cbv;refine mU zZ5 rfl rfl rfl rfl rfl rfl (w6 eJ _) (yD (by simp only[zA];omega) (by simp only[zA];omega)) rfl ?_;cbv;refine tC 7 (.trans (.frz 5 rfl rfl ?_ ?_) (.le (ps':=⟨[(2,.ptr 7 0)],[(7,.box [u8v raw,.int .i64 (fun _=>((0:Nat):Int))])]⟩) ?_ ?_ rfl)) rfl rfl rfl ?_
 ·cbv
  repeat' first|exact trivial|exact z8 (by simp[zA])|apply And.intro
 ·cbv
  repeat' first|exact trivial|exact z8 (by simp[zA])|apply And.intro
 {exact okZ};{cbv;exact⟨⟨zR (yS (by simp[zA])),lR,trivial⟩,trivial⟩};{cbv;exact lR}
theorem zEJ (raw:List UInt8)(d k v a:Nat):fdL raw d (k+1) v a=((fdF raw v a).1::(fdL raw d k (v+d) (fdF raw v a).2).1,(fdL raw d k (v+d) (fdF raw v a).2).2):=rfl
theorem zEI (raw:List UInt8)(d v a:Nat):fdL raw d 0 v a=([],a):=rfl
theorem cW {α:Type}(p:α->List PV)(l:List α)(a:α):enc p l++zS [p a]=enc p (l++[a]):=by rw[<-gI];rfl
theorem zQ7 (raw:List UInt8)(a:Nat)(hr:raw.length<2^38)(ha:a<=raw.length):Sound 250 [.ptr 1000000 0] (fdo raw a) [] (gv (fdG raw a).1.g) (fdo raw (fdG raw a).2) []:=by
 refine sF Tryz.f250 ?_;have c1:=bW raw a 3 hr (by decide) (by decide) ha;have c2:=bW raw (na raw a) 5 hr (by decide) (by decide) (dD ha);have c3:=bW raw (na raw (na raw a)) 3 hr (by decide) (by decide) (dD (dD ha));have cF:∀ (v b:Nat),b<=raw.length->v<=100->Sound 50 [.ptr 1000000 0,.int .i64 (fun _=>(v:Int))] (fdo raw b) [] (fv (fdF raw v b).1) (fdo raw (fdF raw v b).2) []:=fun v b h1 h2=>zC7 raw v b hr h1 h2;have hFl:∀ (v b:Nat),b<=raw.length->(fdF raw v b).2<=raw.length:=fun v b h=>zI7 h;have l1:fdN raw 3 a<3:=kX (by decide);have l2:fdN raw 5 (na raw a)<5:=kX (by decide);have l3:fdN raw 3 (na raw (na raw a))<3:=kX (by decide);have hb3:na raw (na raw (na raw a))<=raw.length:=dD (dD (dD ha));have hG:fdG raw a=(⟨1+fdN raw 3 a,(fdL raw 1 (fdN raw 5 (na raw a)) (1+fdN raw 3 a) (na raw (na raw (na raw a)))).1,(fdL raw 0 (1+fdN raw 3 (na raw (na raw a))) (1+fdN raw 3 a+fdN raw 5 (na raw a)) (fdL raw 1 (fdN raw 5 (na raw a)) (1+fdN raw 3 a) (na raw (na raw (na raw a)))).2).1⟩,(fdL raw 0 (1+fdN raw 3 (na raw (na raw a))) (1+fdN raw 3 a+fdN raw 5 (na raw a)) (fdL raw 1 (fdN raw 5 (na raw a)) (1+fdN raw 3 a) (na raw (na raw (na raw a)))).2).2):=rfl;rw[hG];clear hG;generalize na raw (na raw (na raw a))=b3 at *
 generalize na raw (na raw a)=b2 at *
 generalize na raw a=b1 at *
 generalize fdN raw 3 a=x1 at *
 generalize fdN raw 5 b1=x2 at *
 generalize fdN raw 3 b2=x3 at *
 obtain⟨U,hU⟩:∃ U,fdL raw 1 x2 (1+x1) b3=U:=⟨_,rfl⟩;obtain⟨O,hO⟩:∃ O,fdL raw 0 (1+x3) (1+x1+x2) U.2=O:=⟨_,rfl⟩;rw[hU,hO];have hUl:U.1.length=x2:=by rw[<-hU,cE]
 have hOl:O.1.length=1+x3:=by rw[<-hO,cE]
 obtain⟨UA,hUA⟩:∃ l,U.1.map fA=l:=⟨_,rfl⟩;obtain⟨OA,hOA⟩:∃ l,O.1.map fA=l:=⟨_,rfl⟩;obtain⟨bO,hbO⟩:∃ b,O.2=b:=⟨_,rfl⟩;have hgoal:gv (⟨1+x1,U.1,O.1⟩:FGrp).g=.agg [.int .i64 (fun _=>((1+x1:Nat):Int)),alv UA,alv OA]:=by rw[<-hUA,<-hOA];rfl
 show wp _ _ (dK _ (gv (⟨1+x1,U.1,O.1⟩:FGrp).g) (fdo raw O.2) []);rw[hgoal,hbO];clear hgoal;cbv;refine y0 (fun _=>1000000) (.refl _) rfl okA c1 ⟨⟨rfl,rfl⟩,trivial⟩ rfl rfl rfl rfl rfl rfl rfl rfl ?_;cbv;refine⟨zD om om,?_⟩;cbv;refine y0 (fun _=>1000000) (.refl _) rfl okA c2 ⟨⟨rfl,rfl⟩,trivial⟩ rfl rfl rfl rfl rfl rfl rfl rfl ?_;cbv;refine y0 (fun _=>1000000) (.refl _) rfl okA c3 ⟨⟨rfl,rfl⟩,trivial⟩ rfl rfl rfl rfl rfl rfl rfl rfl ?_;cbv;refine⟨zD om om,?_⟩;cbv;refine z3 (σ:=Nat×Nat×List F) (fun s=>⟨[(0,.ptr 1000000 0),(2,.ptr 2 0),(3,.ptr 3 0),(4,.int .i64 (fun _=>(x2:Int))),(5,.int .i64 (fun _=>((1+x3:Nat):Int))),(6,.int .i64 (fun _=>(s.1:Int)))],
   [(1000000,.box [u8v raw,.int .i64 (fun _=>(s.2.1:Int))]),(2,.box [.int .i64 (fun _=>0),.nil,.nil]),(3,.box [.int .i64 (fun _=>((1+x1:Nat):Int)),.osl 31 4 (fun _=>0) (fun _=>s.2.2.length),.nil]),(31,.arr 4 (fun _=>enc ac (s.2.2.map fA)))]⟩)
  (fun s=>s.1<=x2/\s.2.1<=raw.length/\U.1=s.2.2++(fdL raw 1 (x2-s.1) (1+x1+s.1) s.2.1).1/\U.2=(fdL raw 1 (x2-s.1) (1+x1+s.1) s.2.1).2) (fun s=>x2-s.1)
  (0,b3,[]) ⟨by omega,hb3,by rw[<-hU];rfl,by rw[<-hU];rfl⟩
  (.trans (.le (ps':=⟨[(0,.ptr 1000000 0),(2,.ptr 2 0),(3,.ptr 3 0),(4,.int .i64 (fun _=>(x2:Int))),(5,.int .i64 (fun _=>((1+x3:Nat):Int))),(6,.int .i64 (fun _=>((0:Nat):Int)))],
    [(1000000,.box [u8v raw,.int .i64 (fun _=>(b3:Int))]),(2,.box [.int .i64 (fun _=>0),.nil,.nil]),(3,.box [.int .i64 (fun _=>((1+x1:Nat):Int)),.nil,.nil])]⟩) okZ okZ rfl)
   (.trans (.adoptB (ps:=⟨[(0,.ptr 1000000 0),(2,.ptr 2 0),(3,.ptr 3 0),(4,.int .i64 (fun _=>(x2:Int))),(5,.int .i64 (fun _=>((1+x3:Nat):Int))),(6,.int .i64 (fun _=>((0:Nat):Int)))],
    [(1000000,.box [u8v raw,.int .i64 (fun _=>(b3:Int))]),(2,.box [.int .i64 (fun _=>0),.nil,.nil]),(3,.box [.int .i64 (fun _=>((1+x1:Nat):Int)),.nil,.nil])]⟩) (cs:=[.int .i64 (fun _=>((1+x1:Nat):Int)),.nil,.nil]) 31 4 3 1 rfl rfl rfl) (.le okZ ?_ rfl))) ?_
 {cbv;exact⟨okA,okA,okA,zI rfl,trivial⟩};intro s hs;obtain⟨j,b,us⟩:=s;obtain⟨g1,g2,g3,g4⟩:=hs;dsimp only at g1 g2 g3 g4;cbv;refine zG (fun h=>?_) (fun h=>?_)
 ·have hj:j<x2:=om;rw[show x2-j=(x2-(j+1))+1 by omega,zEJ] at g3 g4;have cf:=cF (1+x1+j) b g2 oM;have hb':=hFl (1+x1+j) b g2;generalize hFF:fdF raw (1+x1+j) b=FF at *
  (obtain⟨W,hW⟩:∃ W,fA FF.1=W:=⟨_,rfl⟩;obtain⟨b',hbb⟩:∃ b',FF.2=b':=⟨_,rfl⟩;have d1:Sound 50 [.ptr 1000000 0,.int .i64 (fun _=>((1+x1+j:Nat):Int))] (fdo raw b) [] (av W) (fdo raw b') []:=by subst hW hbb;exact cf);rw[hbb] at g3 g4 hb'
  clear cf;cbv;refine vC 9 [(7,1000000)] (by cbv) (by cbv) (by cbv) ?_;cbv;refine⟨zD om om,?_⟩;cbv;refine zFJ (fun _=>1000000) rfl (by exact⟨lR,zC om,trivial⟩) d1 rfl rfl rfl rfl rfl rfl ?_;cbv;refine wE zMS rfl rfl rfl (by simp[zA]) rfl ⟨by simp[zS,wB]⟩ (yD (by simp[zS] <;> omega) (by have hus:us.length<x2:=(by have:=congrArg List.length g3;rw[hUl] at this;simp at this;omega);simp[zS,zA];(try dsimp only [zF] at *);omega)) rfl ?_;cbv;refine⟨zD om om,(j+1,b',us++[FF.1]),⟨om,hb',by rw[g3];simp[lV],by rw[g4];simp[lV]⟩,(by show x2-(j+1)<x2-j;omega),.le okZ ?_ rfl⟩;cbv;refine⟨okA,okA,⟨lR,yC rfl (by simp[zS,zA]),lR,trivial⟩,zI ?_,trivial⟩;subst hW;show enc ac (us.map fA)++zS [ac (fA FF.1)]=enc ac ((us++[FF.1]).map fA);rw[cW,gE];rfl
 have hj:j=x2:=om;subst hj;rw[lX,zEI] at g3 g4;have e1:U.1=us:=by rw[g3];simp
 have e2:U.2=b:=g4;have hul:us.length=j:=by rw[<-e1,<-hU,cE]
 have hUAs:us.map fA=UA:=by rw[<-hUA,e1]
 rw[e2] at hO;clear g3 g4 h hU hUA e1 e2;cbv;refine z3 (σ:=Nat×Nat×List F) (fun s=>⟨[(0,.ptr 1000000 0),(2,.ptr 2 0),(3,.ptr 3 0),(4,.int .i64 (fun _=>(j:Int))),(5,.int .i64 (fun _=>((1+x3:Nat):Int))),(7,.int .i64 (fun _=>(s.1:Int)))],
   [(1000000,.box [u8v raw,.int .i64 (fun _=>(s.2.1:Int))]),(2,.box [.int .i64 (fun _=>0),.nil,.nil]),(3,.box [.int .i64 (fun _=>((1+x1:Nat):Int)),alv UA,.osl 47 4 (fun _=>0) (fun _=>s.2.2.length)]),(47,.arr 4 (fun _=>enc ac (s.2.2.map fA)))]⟩)
  (fun s=>s.1<=1+x3/\s.2.1<=raw.length/\O.1=s.2.2++(fdL raw 0 (1+x3-s.1) (1+x1+j) s.2.1).1/\O.2=(fdL raw 0 (1+x3-s.1) (1+x1+j) s.2.1).2) (fun s=>1+x3-s.1)
  (0,b,[]) ⟨by omega,g2,by rw[<-hO];rfl,by rw[<-hO];rfl⟩
  (.trans (.frz 31 rfl rfl (by cbv;repeat' first|exact trivial|exact z8 (by simp[zA])|apply And.intro) (by cbv;repeat' first|exact trivial|exact z8 (by simp[zA])|apply And.intro))
   (.trans (.le (ps':=⟨[(0,.ptr 1000000 0),(2,.ptr 2 0),(3,.ptr 3 0),(4,.int .i64 (fun _=>(j:Int))),(5,.int .i64 (fun _=>((1+x3:Nat):Int))),(7,.int .i64 (fun _=>((0:Nat):Int)))],
    [(1000000,.box [u8v raw,.int .i64 (fun _=>(b:Int))]),(2,.box [.int .i64 (fun _=>0),.nil,.nil]),(3,.box [.int .i64 (fun _=>((1+x1:Nat):Int)),alv UA,.nil])]⟩) okZ ?_ rfl)
   (.trans (.adoptB (ps:=⟨[(0,.ptr 1000000 0),(2,.ptr 2 0),(3,.ptr 3 0),(4,.int .i64 (fun _=>(j:Int))),(5,.int .i64 (fun _=>((1+x3:Nat):Int))),(7,.int .i64 (fun _=>((0:Nat):Int)))],
    [(1000000,.box [u8v raw,.int .i64 (fun _=>(b:Int))]),(2,.box [.int .i64 (fun _=>0),.nil,.nil]),(3,.box [.int .i64 (fun _=>((1+x1:Nat):Int)),alv UA,.nil])]⟩) (cs:=[.int .i64 (fun _=>((1+x1:Nat):Int)),alv UA,.nil]) 47 4 3 2 rfl rfl rfl) (.le okZ ?_ rfl)))) ?_
 {cbv;exact⟨okA,okA,⟨lR,zR (by rw[wC,yS (by simp[zA]),hUAs]),lR,trivial⟩,trivial⟩};{cbv;exact⟨okA,okA,okA,zI rfl,trivial⟩};clear g2 hUAs hul;intro s hs;obtain⟨i,b,os⟩:=s;obtain⟨g1',g2,g3,g4⟩:=hs;dsimp only at g1' g2 g3 g4;cbv;refine zG (fun h=>?_) (fun h=>?_)
 ·have hi:i<1+x3:=om;rw[show 1+x3-i=(1+x3-(i+1))+1 by omega,zEJ] at g3 g4;have cf:=cF (1+x1+j) b g2 oM;have hb':=hFl (1+x1+j) b g2;generalize hFF:fdF raw (1+x1+j) b=FF at *
  (obtain⟨W,hW⟩:∃ W,fA FF.1=W:=⟨_,rfl⟩;obtain⟨b',hbb⟩:∃ b',FF.2=b':=⟨_,rfl⟩;have d1:Sound 50 [.ptr 1000000 0,.int .i64 (fun _=>((1+x1+j:Nat):Int))] (fdo raw b) [] (av W) (fdo raw b') []:=by subst hW hbb;exact cf);rw[hbb] at g3 g4 hb'
  clear cf;cbv;refine vC 9 [(7,1000000)] (by cbv) (by cbv) (by cbv) ?_;cbv;refine⟨zD om om,?_⟩;cbv;refine zFJ (fun _=>1000000) rfl (by exact⟨lR,zC om,trivial⟩) d1 rfl rfl rfl rfl rfl rfl ?_;cbv;refine wE zMS rfl rfl rfl (by simp[zA]) rfl ⟨by simp[zS,wB]⟩ (yD (by simp[zS] <;> omega) (by have hos:os.length<1+x3:=(by have:=congrArg List.length g3;rw[hOl] at this;simp at this;omega);simp[zS,zA];(try dsimp only [zF] at *);omega)) rfl ?_;cbv;refine⟨zD om om,(i+1,b',os++[FF.1]),⟨om,hb',by rw[g3];simp[lV],by rw[g4];simp[lV]⟩,(by show 1+x3-(i+1)<1+x3-i;omega),.le okZ ?_ rfl⟩;cbv;refine⟨okA,okA,⟨lR,lR,yC rfl (by simp[zS,zA]),trivial⟩,zI ?_,trivial⟩;subst hW;show enc ac (os.map fA)++zS [ac (fA FF.1)]=enc ac ((os++[FF.1]).map fA);rw[cW,gE];rfl
 ·(have hi:i=1+x3:=om;subst hi;rw[lX,zEI] at g3 g4;have e1:O.1=os:=by rw[g3];simp);have e2:O.2=b:=g4
  (have e3:os.map fA=OA:=by rw[<-hOA,e1]);have e4:b=bO:=by rw[<-hbO,e2]
  subst e4;cbv;refine zE1 (.trans (.le (ps':=⟨[(2,.ptr 2 0)],[(1000000,.box [u8v raw,.int .i64 (fun _=>(b:Int))]),(2,.box [.int .i64 (fun _=>((1+x1:Nat):Int)),alv UA,.osl 47 4 (fun _=>0) (fun _=>os.length)]),(47,.arr 4 (fun _=>enc ac (os.map fA)))]⟩) okZ ?_ rfl) (.frz 47 rfl rfl (by cbv;repeat' first|exact trivial|exact z8 (by simp[zA])|apply And.intro) (by cbv;repeat' first|exact trivial|exact z8 (by simp[zA])|apply And.intro))) rfl rfl rfl rfl ?_;{cbv;exact⟨okA,okA,zI rfl,trivial⟩};{cbv;exact⟨lR,lR,zR (by rw[wC,yS (by simp[zA]),e3]),trivial⟩}
end Go.Proofs.YtaeaffgjdcigoaaGreat
