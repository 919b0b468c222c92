/- A part of the proof: DvA, RwC, RgA. -/
import Derived.Test.YtaeaffgjdcigoaaGreatC22
import Derived.Test.YtaeaffgjdcigoaaGreatC21
set_option linter.all false
namespace Go.Proofs.YtaeaffgjdcigoaaGreat
open Go
set_option maxRecDepth 100000
set_option maxHeartbeats 1000000
def cI (x y:Int):Int:=if x<y then -1 else if y<x then 1 else 0
def orI (x y:Int):Int:=if x≠0 then x else y
def dS (a b:Row):Int:=orI (cI a.k b.k) (orI (cI a.i b.i) (orI (cI a.lo b.lo) (cI a.hi b.hi)))
theorem zRR {b:Bool}(h:b=true):LeS (.nbool (fun _=>b)) .ff:=⟨by simp[Le,h]⟩
theorem sNaN (x:Int):zE 191 [.int .i64 (fun _=>x)] .ff:=by
 refine sF Tryz.f191 ?_;cbv
 (refine rC ?_;cbv)
 exact zRR (by simp)
theorem zL9 (x y:Int):zE 144 [.int .i64 (fun _=>x),.int .i64 (fun _=>y)] (.int .i64 (fun _=>cI x y)):=by
 refine sF Tryz.f144 ?_;have cx:=sNaN x;have cy:=sNaN y;have h1:x<y->cI x y=-1:=fun h=>if_pos h;have h2:¬x<y->y<x->cI x y=1:=fun h g=>by unfold cI;rw[if_neg h,if_pos g]
 have h3:¬x<y->¬y<x->cI x y=0:=fun h g=>by unfold cI;rw[if_neg h,if_neg g]
 generalize cI x y=c at *
 cbv;refine cA cx ?_;cbv;refine cA cy ?_;cbv;refine zG (fun h=>?_) (fun h=>?_)
 ·cbv
  (refine rC ?_;cbv)
  exact zC (h1 h).symm
 ·cbv;refine zG (fun g=>?_) (fun g=>?_)
  ·cbv
   (refine rC ?_;cbv)
   exact zC (h2 h g).symm
  ·cbv
   (refine rC ?_;cbv)
   exact zC (h3 h g).symm
def oneI (x:Int):List PV:=[.int .i64 (fun _=>x)]
theorem zPJ (a:Int):yR qW (oneI a)=true:=rfl
theorem zRL (a:Int):(oneI a).length=1:=rfl
def orL:List Int->Int
 |[]=>0| x::r=>orI x (orL r)
theorem sOr (l:List Int)(hl:l.length<2^40):zE 289 [.sl (fun _=>enc oneI l)] (.int .i64 (fun _=>orL l)):=by
 refine sF Tryz.f289 ?_;generalize hr:orL l=r;cbv;refine z3 (σ:=Nat) (fun i=>⟨[(3,.int .i64 (fun _=>0)),(6,.sl (fun _=>enc oneI l)),(7,.int .i64 (fun _=>(l.length:Int))),(8,.int .i64 (fun _=>(i:Int)))],[]⟩)
  (fun i=>i<=l.length/\r=orL (l.drop i)) (fun i=>l.length-i) 0 ⟨om,hr.symm⟩ (.le ?_ ?_ rfl) ?_
 {cbv;exact⟨lR,lR,zC (by (try dsimp only [zF] at *);rw[zA]),lR,trivial⟩};{cbv};clear hr;intro i hs;obtain⟨h1,h2⟩:=hs;cbv;refine zG (fun h5=>?_) (fun h5=>?_)
 ·(cbv;refine xU (l:=l) i om om zPJ zRL (fun t ht=>?_);rw[zY ht,show orL (t::l.drop (i+1))=orI t (orL (l.drop (i+1))) from rfl] at h2;have h3:t≠0->r=t:=fun h=>by rw[h2];exact if_pos h);have h4:t=0->r=orL (l.drop (i+1)):=fun h=>by rw[h2];exact if_neg (fun g=>g h)
  clear h2;cbv;refine zG (fun h6=>?_) (fun h6=>?_);{have h4':=h4 h6;cbv;refine⟨zD om om,i+1,⟨om,h4'⟩,om,.le ?_ ?_ rfl⟩;{cbv;exact⟨lR,lR,lR,zC om,trivial⟩};{cbv}}
  ·have h3':=h3 h6;cbv
   (refine rC ?_;cbv)
   exact zC h3'.symm
 ·have:i=l.length:=om;rw[this,w4] at h2;cbv
  (refine rC ?_;cbv)
  exact zC h2.symm
theorem zYP (a b:Row):zE 271 [rwv a,rwv b] (.int .i64 (fun _=>dS a b)):=by
 refine sF Tryz.f271 ?_;have c1:=zL9 a.k b.k;have c2:=zL9 a.i b.i;have c3:=zL9 a.lo b.lo;have c4:=zL9 a.hi b.hi;have c5:=sOr [cI a.k b.k,cI a.i b.i,cI a.lo b.lo,cI a.hi b.hi] (by simp);have e:orL [cI a.k b.k,cI a.i b.i,cI a.lo b.lo,cI a.hi b.hi]=dS a b:=by
  (unfold dS orL orL orL orL orL;have:∀ x,orI x 0=x:=fun x=>by unfold orI;split <;> omega);rw[this]
 rw[e] at c5;generalize dS a b=r at *
 generalize cI a.k b.k=x1 at *
 generalize cI a.i b.i=x2 at *
 generalize cI a.lo b.lo=x3 at *
 generalize cI a.hi b.hi=x4 at *
 cbv;refine zN 22 (by cbv) ?_;cbv;refine dA c1 ?_;cbv;refine dA c2 ?_;cbv;refine dA c3 ?_;cbv;refine dA c4 ?_;cbv;refine x9 (by exact⟨zR rfl,trivial⟩) c5 rfl ?_;cbv
 (refine rC ?_;cbv)
 exact lR
def kH:Option Row->List Mult->Bool
 |_,[]=>true
 |p,m::r=>decide (0<z4 m.c.q)&&(m.c.ok&&((match p with
  |none=>true| some w=>decide (dS w m.row<0))&&kH (some m.row) r))
theorem zYQ (l:List Mult)(hl:Msz (2^36) l):zE 229 [mlv l] (.bool (fun _=>kH none l)):=by
 refine sF Tryz.f229 ?_;have hll:=hl.len;have hls:=hl.sz;generalize hr:kH none l=r;cbv;refine z3 (σ:=Nat×Option Row) (fun s=>⟨[(0,mlv l),(5,mlv l),(6,.int .i64 (fun _=>(l.length:Int))),(7,.int .i64 (fun _=>(s.1:Int)))],[]⟩)
  (fun s=>s.1<=l.length/\r=kH s.2 (l.drop s.1)/\(s.1=0->s.2=none)/\(s.1≠0->∃ u,l[s.1-1]?=some u/\s.2=some u.row)) (fun s=>l.length-s.1)
  (0,none) ⟨om,hr.symm,fun _=>rfl,fun h=>absurd rfl h⟩ (.le ?_ ?_ rfl) ?_
 {cbv;exact⟨lR,lR,zC (by (try dsimp only [zF] at *);rw[zA]),lR,trivial⟩};{cbv};clear hr;intro s hs;obtain⟨h1,hv,h3,h4⟩:=hs;generalize s.1=i at *
 generalize s.2=p at *
 cbv;refine zG (fun h5=>?_) (fun h5=>?_)
 ·(cbv;refine xU (l:=l) i om om vP wA (fun t ht=>?_);have htz:=hls t (yA ht);have cs:=s86 t.c (by have:=htz.n;omega);have cv:=s103 t.c htz;have hd:l.drop i=t::l.drop (i+1):=zY ht;have hvn:(¬0<z4 t.c.q->r=false):=fun h=>by rw[hv,hd];unfold kH;rw[decide_eq_false h];rfl);have hvo:t.c.ok=false->r=false:=fun h=>by rw[hv,hd];unfold kH;rw[h];simp
  (have hv0:0<z4 t.c.q->t.c.ok=true->p=none->r=kH (some t.row) (l.drop (i+1)):=fun h g e=>by rw[hv,hd,e];show (decide (0<z4 t.c.q)&&(t.c.ok&&(true&&kH (some t.row) (l.drop (i+1)))))=_;rw[decide_eq_true h,g];simp);have hv1:∀ w,0<z4 t.c.q->t.c.ok=true->p=some w->r=(decide (dS w t.row<0)&&kH (some t.row) (l.drop (i+1))):=fun w h g e=>by rw[hv,hd,e];show (decide (0<z4 t.c.q)&&(t.c.ok&&(decide (dS w t.row<0)&&kH (some t.row) (l.drop (i+1)))))=_;rw[decide_eq_true h,g];simp
  clear hv;generalize z4 t.c.q=sg at *
  generalize t.c.ok=ok at *
  generalize hrest:kH (some t.row) (l.drop (i+1))=rest at *
  cbv;refine zN 26 (by cbv) ?_;cbv;refine dA cs ?_;cbv;refine zQ (fun e1=>?_) (fun e1=>?_)
  ·cbv
   (refine rC ?_;cbv)
   exact zM (hvn oM)
  cbv;refine dA cv ?_;cbv;refine z7 (fun e2=>?_) (fun e2=>?_)
  rotate_left
  ·cbv
   (refine rC ?_;cbv)
   exact zM (hvo e2)
  cbv;refine zQ (fun e3=>?_) (fun e3=>?_)
  ·cbv;obtain⟨u,hu,hu2⟩:=h4 om;have cc:=zYP u.row t.row;have hvv:=hv1 u.row oM e2 hu2;generalize dS u.row t.row=cr at *
   (refine⟨zD om om,xU (l:=l) (i-1) om om vP wA (fun u' hu'=>?_)⟩;obtain rfl:u'=u:=by rw[hu] at hu';exact (vN hu').symm);cbv
   refine dA cc ?_;cbv;refine zG (fun e4=>?_) (fun e4=>?_)
   ·cbv
    (refine rC ?_;cbv)
    exact zM (by rw[hvv,decide_eq_false oM];rfl)
   {rw[decide_eq_true (show cr<0 by omega),yU] at hvv;cbv;exact⟨zD om om,(i+1,some t.row),⟨om,hvv.trans hrest.symm,fun h=>absurd h (by simp),fun _=>⟨_,ht,rfl⟩⟩,om,.le (by cbv;exact⟨lR,lR,lR,zC om,trivial⟩) (by cbv) rfl⟩}
  {cbv;have hvv:=hv0 oM e2 (h3 om);exact⟨zD om om,(i+1,some t.row),⟨om,hvv.trans hrest.symm,fun h=>absurd h (by simp),fun _=>⟨_,ht,rfl⟩⟩,om,.le (by cbv;exact⟨lR,lR,lR,zC om,trivial⟩) (by cbv) rfl⟩}
 ·have:i=l.length:=om;rw[this,w4] at hv;have hv':r=true:=hv;cbv
  (refine rC ?_;cbv)
  exact yN hv'
def F.zero:F:=⟨[],0⟩
theorem uS:fA F.zero=⟨[],R0⟩:=by show (⟨[],zJ 0⟩:A)=_;rw[u6]
theorem fits_one:Fits 1 1:=zEG (z:=1) (by decide) (by decide)
theorem pG (v:Int):(F.var v).fit 1:=⟨⟨by show 1<_;decide,fun t ht=>by
 have:t=(v,1):=by simpa[F.var] using ht
 rw[this];exact fits_one⟩,uK (by decide)⟩
theorem dY {k:Nat}{q:Rat}(h:Fits k q):(F.num q).fit k:=⟨⟨by show 0<_;decide,fun t ht=>absurd ht (by simp[F.num])⟩,h⟩
theorem zF6 {f g:F}{c:Rat}{k m:Nat}(hf:f.fit k)(hg:g.fit k)(hc:Fits m c)(hl:f.ts.length+g.ts.length<2^38):(f.merge g c).fit (2*k+m+1) :=
 ⟨⟨xP (bY _ _ _) hl,nN hc hf.t.fit hg.t.fit⟩,(qT hf.c (y6 hg.c hc)).mono oM⟩
theorem wZ:Fits 1 (-1):=qD fits_one
theorem zHJ {f g:F}{k:Nat}(hf:f.fit k)(hg:g.fit k)(hl:f.ts.length+g.ts.length<2^38):(f.sub g).fit (2*k+2):=(zF6 hf hg wZ hl).mono oM
theorem nD {f:F}{c:Rat}{k m:Nat}(hf:f.fit k)(hc:Fits m c)(hk:1<=k):(f.scale c).fit (2*k+m+1):=zF6 ⟨⟨by show 0<_;decide,fun t ht=>absurd ht (by simp)⟩,uK hk⟩ hf hc (by show 0+_<_;have:=hf.t.len;omega)
theorem zU5 (f g:F):(f.sub g).ts.length<=f.ts.length+g.ts.length:=bY _ _ _
theorem zFX (f:F)(c:Rat):(f.scale c).ts.length<=f.ts.length:=vD (bY _ _ _) (by simp)
def Scp.fIn (s:Scp) (r:Row):Option F :=
 if r.plain=true/\0<=r.i then
  if r.k=1 then s.q.r.lo[r.i.toNat]?.map fun x=>(F.var r.i).sub (F.num x.q)
  else if r.k=2 then s.q.r.hi[r.i.toNat]?.map fun x=>(F.num x.q).sub (F.var r.i)
  else if r.k=3 then s.q.r.rows[r.i.toNat]?.map fun f=>f.f.add F.zero
  else if r.k=4 then match s.path[r.i.toNat]? with
   |some d=>if d.fits s.q=true then (if d.k=3 then some ((F.var d.i).sub (F.num d.x.q)) else if d.k=4 then some (((F.var d.i).sub (F.num d.x.q)).scale (-1)) else none) else none| none=>none
  else none
 else none
theorem yAB (s:Scp)(r:Row)(hs:s.sz (2^28)):zE 272 [sv s,rwv r] (.tup [fv ((s.fIn r).getD F.zero),.bool (fun _=>(s.fIn r).isSome)]):=by
 refine sF Tryz.f272 ?_;have cpl:=zJT r;have hlo:=hs.q.r.lo.sz;have hhi:=hs.q.r.hi.sz;have hrw:=hs.q.r.rows.sz;have hpa:=hs.path.sz;have hrl:=hs.q.r.rows.len;have hft:∀ d,d∈s.path->zE 176 [qv s.q,dv d] (.bool (fun _=>d.fits s.q)):=fun d hd=>zD1 s.q d ((hpa d hd).mono (by decide));have hno:¬(r.plain=true/\0<=r.i)->s.fIn r=none:=fun h=>if_neg h;have hyes:r.plain=true->0<=r.i->s.fIn r=if r.k=1 then s.q.r.lo[r.i.toNat]?.map fun x=>(F.var r.i).sub (F.num x.q)
  else if r.k=2 then s.q.r.hi[r.i.toNat]?.map fun x=>(F.num x.q).sub (F.var r.i)
  else if r.k=3 then s.q.r.rows[r.i.toNat]?.map fun f=>f.f.add F.zero
  else if r.k=4 then match s.path[r.i.toNat]? with
   |some d=>if d.fits s.q=true then (if d.k=3 then some ((F.var d.i).sub (F.num d.x.q)) else if d.k=4 then some (((F.var d.i).sub (F.num d.x.q)).scale (-1)) else none) else none| none=>none
  else none:=fun h1 h2=>if_pos ⟨h1,h2⟩
 obtain⟨o,ho⟩:∃ o,o=s.fIn r:=⟨_,rfl⟩;rw[<-ho] at hno hyes ⊢;obtain⟨W,hW⟩:∃ W,W=fA (o.getD F.zero):=⟨_,rfl⟩;obtain⟨b,hb⟩:∃ b,b=o.isSome:=⟨_,rfl⟩;rw[show fv (o.getD F.zero)=av W by rw[hW],<-hb];have fin2:∀ f,o=some f->W=fA f/\b=true:=fun f h=>by rw[h] at hW hb;exact⟨hW,hb⟩
 have fin1:o=none->W=⟨[],R0⟩/\b=false:=fun h=>by rw[h] at hW hb;exact⟨hW.trans uS,hb⟩
 clear hW hb ho hs;obtain⟨wt,w1,w2,w3⟩:=W;have fin3:o=none->wt=[]/\w1=false/\w2=[]/\w3=[]/\b=false:=fun h=>by obtain⟨h1,h2⟩:=fin1 h;simp only[A.mk.injEq,R.mk.injEq] at h1;exact⟨h1.1,h1.2.1,h1.2.2.1,h1.2.2.2,h2⟩
 clear fin1;generalize r.plain=pl at *
 obtain⟨⟨⟨gn,us,os⟩,⟨lo,hi,rows⟩,⟨ts,c1,c2,c3⟩⟩,path,lems⟩:=s;obtain⟨k,i,rlo,rhi⟩:=r;simp only at hlo hhi hrw hpa hft hno hyes hrl;cbv;refine jS 7 (by cbv) (by cbv) ?_;cbv;refine cA cpl ?_;cbv;refine z7 (fun e1=>?_) (fun e1=>?_)
 rotate_left
 ·subst e1;cbv;obtain⟨g0,g1,g2,g3,g4⟩:=fin3 (hno (fun h=>absurd h.1 (by decide)));subst g0 g1 g2 g3 g4
  (refine rC ?_;cbv)
  exact okA
 subst e1;cbv;refine zG (fun e2=>?_) (fun e2=>?_)
 ·cbv;obtain⟨g0,g1,g2,g3,g4⟩:=fin3 (hno (fun h=>absurd h.2 (by dsimp only at e2;omega)));subst g0 g1 g2 g3 g4
  (refine rC ?_;cbv)
  exact okA
 cbv;have hi0:0<=i:=by (try dsimp only [zF] at *);omega
 have hit:((i.toNat:Nat):Int)=i:=by omega
 have ho:=hyes rfl hi0;clear hno hyes e2;have hk:k=1\/k=2\/k=3\/k=4\/(k<=0\/5<=k):=by omega
 rcases hk with rfl|rfl|rfl|rfl|hk
 ·refine uZ (by simp) ?_;cbv;refine zG (fun e3=>?_) (fun e3=>?_)
  ·cbv;rw[zA] at e3;obtain⟨x,hx⟩:∃ x,lo[i.toNat]?=some x:=zT om;have hxs:=hlo x (yA hx);have cv:=zIV i;have cn:=zBQ x (hxs.mono (by decide));have fx:Fits (2^28) x.q:=hxs.fits (by decide);have cs:=aP (fA (F.var i)) (fA (F.num x.q)) ((pG i).fA.mono (by decide)) ((dY fx).fA.mono (by decide));rw[kY,kY] at cs;have ho2:=fin2 ((F.var i).sub (F.num x.q)) (by rw[ho,if_pos rfl,hx];rfl);dsimp only [fv] at cs cv cn;generalize (F.var i).sub (F.num x.q)=V at *
   generalize fA V=U at *
   generalize fA (F.var i)=V1 at *
   generalize fA (F.num x.q)=V2 at *
   (obtain⟨v1t,v11,v12,v13⟩:=V1;obtain⟨v2t,v21,v22,v23⟩:=V2;obtain⟨ho3,hb⟩:=ho2;subst ho3 hb;obtain⟨x1,x2,x3⟩:=x;refine zN 9 (by cbv) ?_;cbv;refine dA cv ?_;cbv;refine xU (l:=lo) i.toNat om om gG bG (fun x' hx'=>?_);obtain rfl:x'=⟨x1,x2,x3⟩:=by rw[hx] at hx';exact (vN hx').symm);cbv
   refine dA cn ?_;cbv;refine dA cs ?_;cbv
   (refine rC ?_;cbv)
   exact okA
  ·cbv;refine z9 (by simp) ?_;cbv;refine z9 (by simp) ?_;cbv;refine zN 21 (by cbv) ?_;cbv;refine z9 (by simp) ?_;cbv;obtain⟨g0,g1,g2,g3,g4⟩:=fin3 (by rw[ho,if_pos rfl,bE (by rw[zA] at e3;(try dsimp only [zF] at *);omega)];rfl);subst g0 g1 g2 g3 g4
   (refine rC ?_;cbv)
   exact okA
 ·refine z9 (by simp) ?_;cbv;refine uZ (by simp) ?_;cbv;refine zG (fun e3=>?_) (fun e3=>?_)
  ·cbv;rw[zA] at e3;obtain⟨x,hx⟩:∃ x,hi[i.toNat]?=some x:=zT om;have hxs:=hhi x (yA hx);have cv:=zIV i;have cn:=zBQ x (hxs.mono (by decide));have fx:Fits (2^28) x.q:=hxs.fits (by decide);have cs:=aP (fA (F.num x.q)) (fA (F.var i)) ((dY fx).fA.mono (by decide)) ((pG i).fA.mono (by decide));rw[kY,kY] at cs;have ho2:=fin2 ((F.num x.q).sub (F.var i)) (by rw[ho,if_neg (by decide),if_pos rfl,hx];rfl);dsimp only [fv] at cs cv cn;generalize (F.num x.q).sub (F.var i)=V at *
   generalize fA V=U at *
   generalize fA (F.var i)=V1 at *
   generalize fA (F.num x.q)=V2 at *
   (obtain⟨v1t,v11,v12,v13⟩:=V1;obtain⟨v2t,v21,v22,v23⟩:=V2;obtain⟨ho3,hb⟩:=ho2;subst ho3 hb;obtain⟨x1,x2,x3⟩:=x;refine xU (l:=hi) i.toNat om om gG bG (fun x' hx'=>?_);obtain rfl:x'=⟨x1,x2,x3⟩:=by rw[hx] at hx';exact (vN hx').symm);cbv
   refine cA cn ?_;cbv;refine cA cv ?_;cbv;refine cA cs ?_;cbv
   (refine rC ?_;cbv)
   exact okA
  ·cbv;refine z9 (by simp) ?_;cbv;refine zN 21 (by cbv) ?_;cbv;refine z9 (by simp) ?_;cbv;obtain⟨g0,g1,g2,g3,g4⟩:=fin3 (by rw[ho,if_neg (by decide),if_pos rfl,bE (by rw[zA] at e3;(try dsimp only [zF] at *);omega)];rfl);subst g0 g1 g2 g3 g4
   (refine rC ?_;cbv)
   exact okA
 ·refine z9 (by simp) ?_;cbv;refine z9 (by simp) ?_;cbv;refine uZ (by simp) ?_;cbv;refine zG (fun e3=>?_) (fun e3=>?_)
  ·(cbv;rw[zA] at e3;obtain⟨x,hx⟩:∃ x,rows[i.toNat]?=some x:=zT om;have hxs:=hrw x (yA hx);have cs:=zMZ x ⟨[],R0⟩ (hxs.mono (by decide)) ⟨⟨by decide,fun _ h=>absurd h (by simp)⟩,⟨by decide,by decide⟩⟩;have e0:A.f ⟨[],R0⟩=F.zero:=by rw[<-uS,kY]);rw[e0] at cs
   have ho2:=fin2 (x.f.add F.zero) (by rw[ho,if_neg (by decide),if_neg (by decide),if_pos rfl,hx];rfl);dsimp only [fv] at cs;generalize x.f.add F.zero=V at *
   generalize fA V=U at *
   (obtain⟨ho3,hb⟩:=ho2;subst ho3 hb;obtain⟨xt,x1,x2,x3⟩:=x;refine xU (l:=rows) i.toNat om om gK bK (fun x' hx'=>?_);obtain rfl:x'=⟨xt,x1,x2,x3⟩:=by rw[hx] at hx';exact (vN hx').symm);cbv
   refine yP rfl okA cs rfl ?_;cbv
   (refine rC ?_;cbv)
   exact okA
  ·cbv;refine zN 21 (by cbv) ?_;cbv;refine z9 (by simp) ?_;cbv;obtain⟨g0,g1,g2,g3,g4⟩:=fin3 (by rw[ho,if_neg (by decide),if_neg (by decide),if_pos rfl,bE (by rw[zA] at e3;(try dsimp only [zF] at *);omega)];rfl);subst g0 g1 g2 g3 g4
   (refine rC ?_;cbv)
   exact okA
 ·refine z9 (by simp) ?_;cbv;refine z9 (by simp) ?_;cbv;refine z9 (by simp) ?_;cbv;refine zN 21 (by cbv) ?_;cbv;refine uZ (by simp) ?_;cbv;refine zQ (fun e3=>?_) (fun e3=>?_)
  ·(cbv;rw[zA] at e3;obtain⟨d,hd⟩:∃ d,path[i.toNat]?=some d:=zT om;have hds:=hpa d (yA hd);have cf:=hft d (yA hd);have idx:∀ {K:List PV->Prop},K (dc d)->IdxOk 5 (fun _=>enc dc path) (fun _=>i) K:=fun hK=>xU (l:=path) i.toNat hit.symm om qM jH (fun m' hm'=>by rw[hd] at hm';cases hm';exact hK);have cv:=zIV d.i;have cn:=zBQ d.x (hds.mono (by decide));have fx:Fits (2^28) d.x.q:=hds.fits (by decide);have cs:=aP (fA (F.var d.i)) (fA (F.num d.x.q)) ((pG d.i).fA.mono (by decide)) ((dY fx).fA.mono (by decide));rw[kY,kY] at cs;have cm:=zD0 (fA ((F.var d.i).sub (F.num d.x.q))) ((zHJ ((pG d.i).mono (m:=2^28) (by decide)) (dY fx) (by show 1+0<2^38;decide)).fA.mono (by decide));rw[kY] at cm;have ho':o=if d.fits ⟨⟨gn,us,os⟩,⟨lo,hi,rows⟩,⟨ts,c1,c2,c3⟩⟩=true then (if d.k=3 then some ((F.var d.i).sub (F.num d.x.q)) else if d.k=4 then some (((F.var d.i).sub (F.num d.x.q)).scale (-1)) else none) else none:=by rw[ho,if_neg (by decide),if_neg (by decide),if_neg (by decide),if_pos rfl,hd]);clear ho
   generalize d.fits ⟨⟨gn,us,os⟩,⟨lo,hi,rows⟩,⟨ts,c1,c2,c3⟩⟩=ft at *
   dsimp only [fv] at cs cv cn cm;generalize hV:(F.var d.i).sub (F.num d.x.q)=V at *
   generalize V.scale (-1)=V' at *
   have fA1:=fin2 V;have fA2:=fin2 V';generalize fA V=U at *
   generalize fA V'=U' at *
   generalize fA (F.var d.i)=V1 at *
   generalize fA (F.num d.x.q)=V2 at *
   obtain⟨ut,u1,u2,u3⟩:=U;obtain⟨ut',u1',u2',u3'⟩:=U';obtain⟨v1t,v11,v12,v13⟩:=V1;obtain⟨v2t,v21,v22,v23⟩:=V2;obtain⟨dk,di,d1,d2,d3⟩:=d;simp only at ho';refine idx ?_;cbv;refine dA cf ?_;cbv;refine zP (fun e4=>?_) (fun e4=>?_)
   ·subst e4;cbv;refine idx ?_;cbv;refine jS 8 (by cbv) (by cbv) ?_;cbv;refine dA cv ?_;cbv;refine dA cn ?_;cbv;refine dA cs ?_;cbv;refine zG (fun e5=>?_) (fun e5=>?_)
    ·cbv;obtain⟨g1,g2⟩:=fA1 (by rw[ho',if_pos rfl,if_pos e5]);cases g1;subst g2
     (refine rC ?_;cbv)
     exact okA
    ·cbv;refine zG (fun e6=>?_) (fun e6=>?_)
     ·cbv;obtain⟨g1,g2⟩:=fA2 (by rw[ho',if_pos rfl,if_neg e5,if_pos e6]);cases g1;subst g2;refine cA cm ?_;cbv
      (refine rC ?_;cbv)
      exact okA
     ·cbv;obtain⟨g0,g1,g2,g3,g4⟩:=fin3 (by rw[ho',if_pos rfl,if_neg e5,if_neg e6]);subst g0 g1 g2 g3 g4
      (refine rC ?_;cbv)
      exact okA
   ·subst e4;cbv;obtain⟨g0,g1,g2,g3,g4⟩:=fin3 (by rw[ho',if_neg (by decide)]);subst g0 g1 g2 g3 g4
    (refine rC ?_;cbv)
    exact okA
  ·cbv;obtain⟨g0,g1,g2,g3,g4⟩:=fin3 (by rw[ho,if_neg (by decide),if_neg (by decide),if_neg (by decide),if_pos rfl,bE (by rw[zA] at e3;(try dsimp only [zF] at *);omega)]);subst g0 g1 g2 g3 g4
   (refine rC ?_;cbv)
   exact okA
 ·refine z9 (by dsimp only;omega) ?_;cbv;refine z9 (by dsimp only;omega) ?_;cbv;refine z9 (by dsimp only;omega) ?_;cbv;refine zN 21 (by cbv) ?_;cbv;refine z9 (by dsimp only;omega) ?_;cbv;obtain⟨g0,g1,g2,g3,g4⟩:=fin3 (by rw[ho,if_neg oM,if_neg oM,if_neg oM,if_neg oM]);subst g0 g1 g2 g3 g4
  (refine rC ?_;cbv)
  exact okA
abbrev tvq (v:Int) (x:R):PV:=.agg [.int .i64 (fun _=>v),.bool (fun _=>x.neg),nat x.num,nat x.den]
theorem sNz (l:List (Int×Rat))(v:Int)(q:Rat)(hq:Fits (2^36) q)(hl:l.length<2^39):Sound 162 [.osl 100 4 (fun _=>0) (fun _=>l.length),tvq v (zJ q)] [] [(100,.arr 4 (fun _=>enc tc (tR l)))] (.osl 100 4 (fun _=>0) (fun _=>(pcr l v q).length)) [] [(100,.arr 4 (fun _=>enc tc (tR (pcr l v q))))]:=by
 refine sF Tryz.f162 ?_;have cs:=s35 (zJ q) (by have:=(zU hq).n;omega);rw[z6] at cs;have h1:z4 q≠0->pcr l v q=l++[(v,q)]:=fun h=>if_neg (sgnQ_ne.1 h);have h2:z4 q=0->pcr l v q=l:=fun h=>if_pos (by have:=fun g=>sgnQ_ne.2 g h;simpa using this);have hR:tR [(v,q)]=[(v,zJ q)]:=rfl;generalize pcr l v q=P at *
 generalize z4 q=sg at *
 generalize zJ q=W at *
 clear hq;cbv;refine cA cs ?_;cbv;refine zG (fun h=>?_) (fun h=>?_);{have hP:=h2 h;cbv;subst hP;exact tC 100 (.refl _) rfl rfl rfl (by cbv;exact lR)};{have hP:=h1 h;cbv;subst hP;refine wE zNO rfl rfl rfl (by simp only[zA,vI]) rfl ⟨by simp[zS,wB]⟩ (yD (by simp only[zA,vI,zS,kI,sZ];omega) (by simp only[zA,vI,zS,kI,sZ];omega)) rfl ?_;cbv;refine tC (ps':=⟨[(4,.osl 13 4 (fun _=>0) (fun _=>(l++[(v,q)]).length))],[(13,.arr 4 (fun _=>enc tc (tR (l++[(v,q)]))))]⟩) 13 (.le ?_ ?_ rfl) rfl rfl rfl ?_;{cbv;exact⟨yC rfl (by simp[zA,vI,zS]),trivial⟩};{cbv;exact⟨zI (by rw[zSJ,hR,<-gI];rfl),trivial⟩};{cbv;exact lR}}
def xF (v:Int) (q:Rat):Bool->List (Int×Rat)->List (Int×Rat)
 |d,[]=>if d=true then [] else pc v q []| d,t::r=>if t.1=v then pc t.1 (t.2+q) (xF v q true r) else if d=false/\v<t.1 then pc v q (pc t.1 t.2 (xF v q true r)) else pc t.1 t.2 (xF v q d r)
theorem zWR (l:List (Int×Rat))(fc:R)(v:Int)(c:R)(hl:Tfit (2^30) l)(hc:c.sz (2^30)):zE 175 [av ⟨tR l,fc⟩,.int .i64 (fun _=>v),rv c] (av ⟨tR (xF v c.q false l),fc⟩):=by
 refine sF Tryz.f175 ?_;have cfc:=hc.fits (by decide);have cc:=s47 c (hc.mono (by decide));have hll:=hl.len;have hadd:∀ t,t∈l->zE 18 [rv (zJ t.2),rv c] (rv (zJ (t.2+c.q))):=fun t ht=>by have:=s44 (zJ t.2) c ((zU (hl.fit t ht)).mono (by decide)) (hc.mono (by decide));rw[z6] at this;exact this
 have hasz:∀ t,t∈l->Fits (2^36) (t.2+c.q):=fun t ht=>(qT (hl.fit t ht) cfc).mono (by decide);have htsz:∀ t,t∈l->Fits (2^36) t.2:=fun t ht=>(hl.fit t ht).mono (by decide);have hqsz:Fits (2^36) c.q:=cfc.mono (by decide);generalize hM:xF v c.q false l=M;generalize hcq:c.q=q at *
 clear hl hc hcq cfc;cbv;refine z3 (σ:=List (Int×Rat)×Nat×Bool) (fun s=>⟨[(1,.int .i64 (fun _=>v)),(3,.ptr 3 0),(5,.ptr 5 0),(6,.ptr 6 0),(7,.osl 200 4 (fun _=>0) (fun _=>s.1.length)),(8,.bool (fun _=>s.2.2)),(9,.int .i64 (fun _=>(s.2.1:Int)))],
   [(3,.box [tsv (tR l),.bool (fun _=>fc.neg),nat fc.num,nat fc.den]),(5,.box [.bool (fun _=>c.neg),nat c.num,nat c.den]),(6,.box [.nil,.ff,.nil,.nil]),(200,.arr 4 (fun _=>enc tc (tR s.1)))]⟩)
  (fun s=>s.2.1<=l.length/\s.1.length<=2*s.2.1/\M=s.1++xF v q s.2.2 (l.drop s.2.1)) (fun s=>l.length-s.2.1)
  ([],0,false) ⟨om,by simp,hM.symm⟩
  (.trans (.le (ps':=⟨[(1,.int .i64 (fun _=>v)),(3,.ptr 3 0),(5,.ptr 5 0),(6,.ptr 6 0),(7,.nil),(8,.bool (fun _=>false)),(9,.int .i64 (fun _=>((0:Nat):Int)))],[(3,.box [tsv (tR l),.bool (fun _=>fc.neg),nat fc.num,nat fc.den]),(5,.box [.bool (fun _=>c.neg),nat c.num,nat c.den]),(6,.box [.nil,.ff,.nil,.nil])]⟩) ?_ ?_ rfl)
   (.trans (.adoptT (ps:=⟨[(1,.int .i64 (fun _=>v)),(3,.ptr 3 0),(5,.ptr 5 0),(6,.ptr 6 0),(7,.nil),(8,.bool (fun _=>false)),(9,.int .i64 (fun _=>((0:Nat):Int)))],[(3,.box [tsv (tR l),.bool (fun _=>fc.neg),nat fc.num,nat fc.den]),(5,.box [.bool (fun _=>c.neg),nat c.num,nat c.den]),(6,.box [.nil,.ff,.nil,.nil])]⟩) 200 4 7 rfl rfl) (.le ?_ ?_ rfl))) ?_
 {cbv;exact⟨lR,lR,lR,lR,lR,zM rfl,zC rfl,trivial⟩};{cbv;exact okA};{cbv;exact⟨lR,lR,lR,lR,yC rfl rfl,lR,lR,trivial⟩};{cbv;exact⟨okA,okA,okA,zI rfl,trivial⟩};intro s hs;obtain⟨h1,hL,hI⟩:=hs;generalize s.1=out at *
 generalize s.2.1=i at *
 generalize s.2.2=d at *
 clear hM;cbv;refine zG (fun h5=>?_) (fun h5=>?_)
 ·cbv;refine xU (l:=tR l) i om (by simp only[zA,vI] at h5 ⊢;(try dsimp only [zF] at *);omega) wM wI (fun t' ht'=>?_);obtain⟨t,ht,rfl⟩:∃ t,l[i]?=some t/\t'=(t.1,zJ t.2):=by
   unfold tR at ht';rw[bR] at ht';cases hx:l[i]? with
   |none=>rw[hx] at ht';cases ht'
   |some t=>rw[hx] at ht';exact⟨t,rfl,(vN ht').symm⟩
  (have hmem:=yA ht;have hlt:i<l.length:=(wH.1 ht).1;rw[zY ht,show xF v q d (t::l.drop (i+1))=if t.1=v then pc t.1 (t.2+q) (xF v q true (l.drop (i+1))) else if d=false/\v<t.1 then pc v q (pc t.1 t.2 (xF v q true (l.drop (i+1)))) else pc t.1 t.2 (xF v q d (l.drop (i+1))) from rfl] at hI;have f1:t.1=v->M=pcr out t.1 (t.2+q)++xF v q true (l.drop (i+1)):=fun e=>by rw[hI,if_pos e,fO]);have f2:¬t.1=v->d=false->v<t.1->M=pcr (pcr out v q) t.1 t.2++xF v q true (l.drop (i+1)):=fun e e2 e3=>by rw[hI,if_neg e,if_pos ⟨e2,e3⟩,fO,fO]
  (have f3:¬t.1=v->¬(d=false/\v<t.1)->M=pcr out t.1 t.2++xF v q d (l.drop (i+1)):=fun e e2=>by rw[hI,if_neg e,if_neg e2,fO]);clear hI
  obtain⟨Y,hY⟩:∃ Y,zJ t.2=Y:=⟨_,rfl⟩;rw[hY];cbv;refine zG (fun e1=>?_) (fun e1=>?_)
  ·have hI':M=pcr out t.1 (t.2+q)++xF v q true (l.drop (i+1)):=f1 e1;have ca:=hadd t hmem;have cz:=sNz out t.1 (t.2+q) (hasz t hmem) oM;have hpl:=fN out t.1 (t.2+q);generalize pcr out t.1 (t.2+q)=out' at *
   generalize zJ (t.2+q)=X at *
   rw[hY] at ca;cbv;refine cA ca ?_;cbv;refine y0 (fun _=>200) (Wk.sel _ [1,3,5,6,8,9,46,47] [3,5,6,200] rfl) rfl okA cz ⟨⟨rfl,rfl⟩,trivial⟩ rfl rfl rfl rfl rfl rfl rfl rfl ?_;cbv;refine⟨zD om om,(out',i+1,true),⟨om,om,hI'⟩,om,.le ?_ ?_ rfl⟩;{cbv;exact⟨lR,lR,lR,lR,lR,yN rfl,zC om,trivial⟩};{cbv;exact⟨okA,okA,okA,zI rfl,trivial⟩}
  ·cbv;refine z7 (fun e2=>?_) (fun e2=>?_)
   ·have hI':M=pcr out t.1 t.2++xF v q d (l.drop (i+1)):=f3 e1 (fun h=>absurd (e2.symm.trans h.1) (by decide));have cz:=sNz out t.1 t.2 (htsz t hmem) oM;have hpl:=fN out t.1 t.2;generalize pcr out t.1 t.2=out' at *
    rw[hY] at cz;cbv;refine y0 (fun _=>200) (Wk.sel _ [1,3,5,6,8,9,46,47] [3,5,6,200] rfl) rfl okA cz ⟨⟨rfl,rfl⟩,trivial⟩ rfl rfl rfl rfl rfl rfl rfl rfl ?_;cbv;refine⟨zD om om,(out',i+1,d),⟨om,om,hI'⟩,om,.le ?_ ?_ rfl⟩;{cbv;exact⟨lR,lR,lR,lR,lR,lR,zC om,trivial⟩};{cbv;exact⟨okA,okA,okA,zI rfl,trivial⟩}
   ·cbv;refine zG (fun e3=>?_) (fun e3=>?_)
    ·have hI':M=pcr (pcr out v q) t.1 t.2++xF v q true (l.drop (i+1)):=f2 e1 e2 e3;have cz1:=sNz out v q hqsz oM;have hpl1:=fN out v q;have cz2:=sNz (pcr out v q) t.1 t.2 (htsz t hmem) oM;have hpl2:=fN (pcr out v q) t.1 t.2;generalize pcr (pcr out v q) t.1 t.2=out2 at *
     generalize pcr out v q=out1 at *
     rw[hY] at cz2;generalize zJ q=X at *
     cbv;refine cA cc ?_;cbv;refine y0 (fun _=>200) (Wk.sel _ [1,3,5,6,9,10,40,44] [3,5,6,10,200] rfl) rfl okA cz1 ⟨⟨rfl,rfl⟩,trivial⟩ rfl rfl rfl rfl rfl rfl rfl rfl ?_;cbv;refine y0 (fun _=>200) (Wk.sel _ [1,3,5,6,8,9,46,47] [3,5,6,200] rfl) rfl okA cz2 ⟨⟨rfl,rfl⟩,trivial⟩ rfl rfl rfl rfl rfl rfl rfl rfl ?_;cbv;refine⟨zD om om,(out2,i+1,true),⟨om,om,hI'⟩,om,.le ?_ ?_ rfl⟩;{cbv;exact⟨lR,lR,lR,lR,lR,yN rfl,zC om,trivial⟩};{cbv;exact⟨okA,okA,okA,zI rfl,trivial⟩}
    ·have hI':M=pcr out t.1 t.2++xF v q d (l.drop (i+1)):=f3 e1 (fun h=>e3 h.2);have cz:=sNz out t.1 t.2 (htsz t hmem) oM;have hpl:=fN out t.1 t.2;generalize pcr out t.1 t.2=out' at *
     rw[hY] at cz;cbv;refine y0 (fun _=>200) (Wk.sel _ [1,3,5,6,8,9,46,47] [3,5,6,200] rfl) rfl okA cz ⟨⟨rfl,rfl⟩,trivial⟩ rfl rfl rfl rfl rfl rfl rfl rfl ?_;cbv;refine⟨zD om om,(out',i+1,d),⟨om,om,hI'⟩,om,.le ?_ ?_ rfl⟩;{cbv;exact⟨lR,lR,lR,lR,lR,lR,zC om,trivial⟩};{cbv;exact⟨okA,okA,okA,zI rfl,trivial⟩}
 ·(have hi:i=l.length:=by simp only[zA,vI] at h5;(try dsimp only [zF] at *);omega);rw[hi,w4] at hI
  cbv;refine zP (fun e1=>?_) (fun e1=>?_)
  ·(have hM':M=out:=by rw[hI,e1];exact uU _);cbv
   subst hM';refine tB _ (.trans (.le (ps':=⟨[(6,.ptr 6 0)],[(6,.box [.osl 200 4 (fun _=>0) (fun _=>M.length),.bool (fun _=>fc.neg),nat fc.num,nat fc.den]),(200,.arr 4 (fun _=>enc tc (tR M)))]⟩) ?_ ?_ rfl) (.frz 200 rfl rfl ?_ ?_)) rfl ?_;{cbv;exact okA};{cbv;exact⟨okA,zI rfl,trivial⟩};{exact⟨trivial,trivial⟩};{cbv;exact⟨⟨z8 (by simp[zA,vI]),trivial⟩,trivial⟩};{cbv;exact⟨zR (yS (by simp[zA,vI])),lR,lR,lR,trivial⟩}
  ·(have hM':M=pcr out v q:=by rw[hI,e1];show out++pc v q []=_;rw[<-fO,uU]);have cz1:=sNz out v q hqsz oM;rw[<-hM'] at cz1;generalize zJ q=X at *
   cbv;refine cA cc ?_;cbv;refine y0 (fun _=>200) (Wk.sel _ [3,6,51,55] [3,6,200] rfl) rfl okA cz1 ⟨⟨rfl,rfl⟩,trivial⟩ rfl rfl rfl rfl rfl rfl rfl rfl ?_;cbv;refine tB _ (.trans (.le (ps':=⟨[(6,.ptr 6 0)],[(6,.box [.osl 200 4 (fun _=>0) (fun _=>M.length),.bool (fun _=>fc.neg),nat fc.num,nat fc.den]),(200,.arr 4 (fun _=>enc tc (tR M)))]⟩) ?_ ?_ rfl) (.frz 200 rfl rfl ?_ ?_)) rfl ?_;{cbv;exact okA};{cbv;exact⟨okA,zI rfl,trivial⟩};{exact⟨trivial,trivial⟩};{cbv;exact⟨⟨z8 (by simp[zA,vI]),trivial⟩,trivial⟩};{cbv;exact⟨zR (yS (by simp[zA,vI])),lR,lR,lR,trivial⟩}
end Go.Proofs.YtaeaffgjdcigoaaGreat
