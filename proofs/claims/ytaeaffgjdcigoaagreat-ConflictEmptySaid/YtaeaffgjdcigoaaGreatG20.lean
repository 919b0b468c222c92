/- A part of the proof: AfA, LnA, LnB, DtA, HfA. -/
import Derived.Test.YtaeaffgjdcigoaaGreatG19
set_option linter.all false
namespace Go.Proofs.YtaeaffgjdcigoaaGreat
open Go
set_option maxRecDepth 100000
set_option maxHeartbeats 1000000
def enc {α:Type} (p:α->List PV) (l:List α):List (List D):=l.map λa=>xE (p a)
section
variable {α:Type} {p:α->List PV}
theorem zA (p:α->List PV)(l:List α):(enc p l).length=l.length:=by simp[enc]
theorem wJ {n:Nat}(hn:∀ a,(p a).length=n)(l:List α):Wid n (λ_=>enc p l):=⟨λe he=>by simp only[enc,xA] at he;obtain⟨x,_,rfl⟩:=he;rw[g9,hn]⟩
theorem xZ (p:α->List PV)(l m:List α):enc p l++enc p m=enc p (l++m):=by simp[enc]
theorem tS (p:α->List PV)(l:List α)(n:Nat)(a:α):(enc p l).set n (xE (p a))=enc p (l.set n a):=by simp[enc,List.map_set]
theorem xH {n:Nat}{l:List α}{k:Int}{K:List PV->Prop}(j:Nat)(hk:k=(j:Int))(hj:j<l.length)(hf:∀ a,yS qZ (p a)=true)(hn:∀ a,(p a).length=n) (hK:∀ a,l[j]?=some a->K (p a)):IdxOk n (λ_=>enc p l) (λ_=>k) K :=
 Ab j hk (p l[j]) (hf _) (hn _) (by simp[enc,hj]) (hK _ (by simp[hj]))
theorem uM {n:Nat}{l:List α}{i:Nat}{K:List PV->Prop}(j:Nat)(hk:i=j)(hj:j<l.length)(hf:∀ a,yS qZ (p a)=true)(hn:∀ a,(p a).length=n) (hK:∀ a,l[j]?=some a->K (p a)):ElOk n (λ_=>enc p l) (λ_=>i) K :=
 Ta j hk (p l[j]) (hf _) (hn _) (by simp[enc,hj]) (hK _ (by simp[hj]))
end
structure A where
 ts:List (Int×R)
 c:R
structure F where
 ts:List (Int×Rat)
 c:Rat
theorem F.ext' {f g:F}(h1:f.ts=g.ts)(h2:f.c=g.c):f=g:=by cases f;simp_all
def tq (l:List (Int×R)):List (Int×Rat):=l.map λt=>(t.1,t.2.q)
def tR (l:List (Int×Rat)):List (Int×R):=l.map λt=>(t.1,zG t.2)
def A.f (a:A):F:=⟨tq a.ts,a.c.q⟩
def fA (f:F):A:=⟨tR f.ts,zG f.c⟩
theorem KA (l:List (Int×Rat)):tq (tR l)=l:=by simp[tq,tR,zV,Function.comp_def]
theorem qP (f:F):(fA f).f=f:=by simp[A.f,fA,KA,zV]
def rc (x:R):List PV:=[bV x.neg,nat x.num,nat x.den]
def tc (t:Int×R):List PV:=[iV t.1,bV t.2.neg,nat t.2.num,nat t.2.den]
abbrev tsv (l:List (Int×R)):PV:=.sl (λ_=>enc tc l)
def ac (f:A):List PV:=[tsv f.ts,bV f.c.neg,nat f.c.num,nat f.c.den]
abbrev av (f:A):PV:=.agg [tsv f.ts,bV f.c.neg,nat f.c.num,nat f.c.den]
abbrev fv (f:F):PV:=av (fA f)
theorem vA (a:R):yS qZ (rc a)=true:=rfl
theorem uF (a:R):(rc a).length=3:=rfl
theorem wG (a:Int×R):yS qZ (tc a)=true:=rfl
theorem wE (a:Int×R):(tc a).length=4:=rfl
theorem qS (a:A):yS qZ (ac a)=true:=rfl
theorem j6 (a:A):(ac a).length=4:=rfl
structure Tsz (k:Nat) (l:List (Int×R)):Prop where
 len:l.length<2^38
 sz:∀ t,t∈l->t.2.sz k
structure A.sz (a:A) (k:Nat):Prop where
 t:Tsz k a.ts
 c:a.c.sz k
theorem Tsz.mono {k m:Nat}{l}(h:Tsz k l)(hm:k<=m):Tsz m l:=⟨h.len,λt ht=>(h.sz t ht).mono hm⟩
theorem A.sz.mono {k m:Nat}{a:A}(h:a.sz k)(hm:k<=m):a.sz m:=⟨h.t.mono hm,h.c.mono hm⟩
structure Tfit (k:Nat) (l:List (Int×Rat)):Prop where
 len:l.length<2^38
 fit:∀ t,t∈l->Fits k t.2
structure F.fit (f:F) (k:Nat):Prop where
 t:Tfit k f.ts
 c:Fits k f.c
theorem Tfit.mono {k m:Nat}{l}(h:Tfit k l)(hm:k<=m):Tfit m l:=⟨h.len,λt ht=>(h.fit t ht).mono hm⟩
theorem F.fit.mono {k m:Nat}{a:F}(h:a.fit k)(hm:k<=m):a.fit m:=⟨h.t.mono hm,h.c.mono hm⟩
theorem Tfit.tR {k:Nat}{l}(h:Tfit k l):Tsz k (tR l):=⟨by simpa[Go.Proofs.YtaeaffgjdcigoaaGreat.tR] using h.len,λt ht=>by simp only[Go.Proofs.YtaeaffgjdcigoaaGreat.tR,xA] at ht;obtain⟨u,hu,rfl⟩:=ht;exact zT (h.fit u hu)⟩
theorem F.fit.fA {k:Nat}{f:F}(h:f.fit k):(fA f).sz k:=⟨h.t.tR,zT h.c⟩
theorem Tsz.fit {k:Nat}{l}(h:Tsz k l)(hk:1<=k):Tfit k (tq l):=⟨by simpa[tq] using h.len,λt ht=>by simp only[tq,xA] at ht;obtain⟨u,hu,rfl⟩:=ht;exact (h.sz u hu).fits hk⟩
theorem A.sz.fit {k:Nat}{a:A}(h:a.sz k)(hk:1<=k):a.f.fit k:=⟨h.t.fit hk,h.c.fits hk⟩
def vT (vars:Int):Int->List (Int×R)->Bool
 |_,[]=>true| p,t::r=>decide (0<=t.1)&&decide (t.1<vars)&&decide (p<t.1)&&decide (t.2.q≠0)&&t.2.ok&&vT vars t.1 r
def A.valid (vars:Int) (a:A):Bool:=vT vars (-1) a.ts&&a.c.ok
structure Cn (l:List (Int×Rat)):Prop where
 s:l.Pairwise (λa b=>a.1<b.1)
 n:∀ t,t∈l->t.2≠0
theorem Cn.nil:Cn []:=⟨.nil,by simp⟩
theorem Cn.tail {t l}(h:Cn (t::l)):Cn l:=⟨(cG.1 h.s).2,λu hu=>h.n u (xQ _ hu)⟩
theorem Cn.lt {t l}(h:Cn (t::l)):∀ u,u∈l->t.1<u.1:=(cG.1 h.s).1
theorem Cn.hd {t l}(h:Cn (t::l)):t.2≠0:=h.n t xV
theorem Cn.cons {t l}(h:Cn l)(h1:∀ u,u∈l->t.1<u.1)(h2:t.2≠0):Cn (t::l) :=
 ⟨cG.2 ⟨h1,h.s⟩,λu hu=>by rcases yI.1 hu with rfl|hu <;> first|exact h2|exact h.n u hu⟩
def co:List (Int×Rat)->Int->Rat
 |[],_=>0| t::r,v=>(if t.1=v then t.2 else 0)+co r v
theorem tU {l:List (Int×Rat)}{v:Int}(h:∀ t,t∈l->t.1≠v):co l v=0:=by
 induction l with
 |nil=>rfl| cons t r ih =>
  simp only[co,if_neg (h t xV),ih λu hu=>h u (xQ _ hu)];grind
theorem dZ {t:Int×Rat}{l}(h:Cn (t::l)):co (t::l) t.1=t.2:=by simp only[co,if_true,tU λu hu=>(Int.ne_of_lt (h.lt u hu)).symm];grind
theorem Cn.ext:∀ {l m:List (Int×Rat)},Cn l->Cn m->(∀ v,co l v=co m v)->l=m
 |[],[],_,_,_=>rfl| [],b::m,_,hm,h=>by have:=h b.1;rw[dZ hm] at this;exact absurd this.symm hm.hd| a::l,[],hl,_,h=>by have:=h a.1;rw[dZ hl] at this;exact absurd this hl.hd| a::l,b::m,hl,hm,h=>by
  have h1:a.1=b.1:=by
   rcases Int.lt_trichotomy a.1 b.1 with c|c|c
   ·have:=h a.1;rw[dZ hl,tU (l:=b::m) (λt ht=>by
     rcases yI.1 ht with rfl|ht;{omega}
     ·have:=hm.lt t ht;omega)] at this
    exact absurd this hl.hd
   {exact c}
   ·have:=h b.1;rw[dZ hm,tU (l:=a::l) (λt ht=>by
     rcases yI.1 ht with rfl|ht;{omega}
     ·have:=hl.lt t ht;omega)] at this
    exact absurd this.symm hm.hd
  (have h2:a.2=b.2:=by grind [dZ]);have h3:a=b:=Prod.ext h1 h2
  subst h3;congr 1;refine Cn.ext hl.tail hm.tail λv=>?_;have:=h v;grind [co]
def pc (v:Int) (q:Rat) (r:List (Int×Rat)):List (Int×Rat):=if q=0 then r else (v,q)::r
theorem iR (v:Int)(q:Rat)(r)(w:Int):co (pc v q r) w=(if v=w then q else 0)+co r w:=by unfold pc;split;{grind};{rfl}
theorem Cn.pc {v:Int}{q:Rat}{r}(h:Cn r)(h1:∀ u,u∈r->v<u.1):Cn (pc v q r):=by unfold Go.Proofs.YtaeaffgjdcigoaaGreat.pc;split;{exact h};{exact h.cons h1 oM}
theorem qJ {v:Int}{q:Rat}{r u}(h:u∈pc v q r):u=(v,q)\/u∈r:=by grind [pc]
def mrg (c:Rat):List (Int×Rat)->List (Int×Rat)->List (Int×Rat)
 |[],[]=>[]| a::aa,[]=>pc a.1 a.2 (mrg c aa [])| [],b::bb=>pc b.1 (b.2*c) (mrg c [] bb)| a::aa,b::bb=>if a.1<b.1 then pc a.1 a.2 (mrg c aa (b::bb)) else if b.1<a.1 then pc b.1 (b.2*c) (mrg c (a::aa) bb) else pc a.1 (a.2+b.2*c) (mrg c aa bb)
termination_by a b=>a.length+b.length
theorem sY (c:Rat):∀ (a b:List (Int×Rat)) (v:Int),co (mrg c a b) v=co a v+co b v*c
 |[],[],v=>by grind [mrg,co]| a::aa,[],v=>by rw[mrg,iR,sY c aa []];grind [co]| [],b::bb,v=>by rw[mrg,iR,sY c [] bb];grind [co]| a::aa,b::bb,v=>by
  rw[mrg];split;{rw[iR,sY c aa (b::bb)];grind [co]}
  ·split;{rw[iR,sY c (a::aa) bb];grind [co]}
   ·(have:a.1=b.1:=by omega);rw[iR,sY c aa bb];grind [co]
termination_by a b=>a.length+b.length
theorem fY {c:Rat}:∀ {a b:List (Int×Rat)} {u},u∈mrg c a b->(∃ t,t∈a/\t.1=u.1)\/(∃ t,t∈b/\t.1=u.1)
 |[],[],u,h=>by grind [mrg]| a::aa,[],u,h=>by
  rw[mrg] at h;rcases qJ h with rfl|h;{grind}
  ·rcases fY h with⟨t,h1,h2⟩|⟨t,h1,h2⟩
   all_goals grind
 |[],b::bb,u,h=>by
  rw[mrg] at h;rcases qJ h with rfl|h;{grind}
  ·rcases fY h with⟨t,h1,h2⟩|⟨t,h1,h2⟩
   all_goals grind
 |a::aa,b::bb,u,h=>by
  rw[mrg] at h;split at h
  ·rcases qJ h with rfl|h;{grind}
   ·rcases fY h with⟨t,h1,h2⟩|⟨t,h1,h2⟩
    all_goals grind
  ·split at h
   ·rcases qJ h with rfl|h;{grind}
    ·rcases fY h with⟨t,h1,h2⟩|⟨t,h1,h2⟩
     all_goals grind
   ·rcases qJ h with rfl|h;{grind}
    ·rcases fY h with⟨t,h1,h2⟩|⟨t,h1,h2⟩
     all_goals grind
termination_by a b=>a.length+b.length
theorem Cn.mrg {c:Rat}:∀ {a b:List (Int×Rat)},Cn a->Cn b->Cn (mrg c a b)
 |[],[],_,_=>by rw[Go.Proofs.YtaeaffgjdcigoaaGreat.mrg];omega| a::aa,[],ha,hb=>by rw[Go.Proofs.YtaeaffgjdcigoaaGreat.mrg];refine Cn.pc (Cn.mrg ha.tail hb) λu hu=>?_;rcases fY hu with⟨t,h1,h2⟩|⟨t,h1,h2⟩;{rw[<-h2];exact ha.lt t h1};grind
 |[],b::bb,ha,hb=>by rw[Go.Proofs.YtaeaffgjdcigoaaGreat.mrg];refine Cn.pc (Cn.mrg ha hb.tail) λu hu=>?_;rcases fY hu with⟨t,h1,h2⟩|⟨t,h1,h2⟩;{grind};{rw[<-h2];exact hb.lt t h1}
 |a::aa,b::bb,ha,hb=>by
  rw[Go.Proofs.YtaeaffgjdcigoaaGreat.mrg];split;{rename_i hlt;refine Cn.pc (Cn.mrg ha.tail hb) λu hu=>?_;rcases fY hu with⟨t,h1,h2⟩|⟨t,h1,h2⟩;{rw[<-h2];exact ha.lt t h1};{rw[<-h2];rcases yI.1 h1 with rfl|h1;{exact hlt};{exact Int.lt_trans hlt (hb.lt t h1)}}}
  ·split;{rename_i _ hlt;refine Cn.pc (Cn.mrg ha hb.tail) λu hu=>?_;rcases fY hu with⟨t,h1,h2⟩|⟨t,h1,h2⟩;{rw[<-h2];rcases yI.1 h1 with rfl|h1;{exact hlt};{exact Int.lt_trans hlt (ha.lt t h1)}};{rw[<-h2];exact hb.lt t h1}}
   ·(have:a.1=b.1:=by omega);refine Cn.pc (Cn.mrg ha.tail hb.tail) λu hu=>?_
    rcases fY hu with⟨t,h1,h2⟩|⟨t,h1,h2⟩;{rw[<-h2];exact ha.lt t h1};{rw[<-h2,this];exact hb.lt t h1}
termination_by a b=>a.length+b.length
theorem rY (v:Int)(q:Rat)(r):(pc v q r).length<=r.length+1:=by grind [pc]
theorem aB (c:Rat):∀ (a b:List (Int×Rat)),(mrg c a b).length<=a.length+b.length
 |[],[]=>by rw[mrg];simp| a::aa,[]=>by rw[mrg];have:=rY a.1 a.2 (mrg c aa []);have:=aB c aa [];grind| [],b::bb=>by rw[mrg];have:=rY b.1 (b.2*c) (mrg c [] bb);have:=aB c [] bb;grind| a::aa,b::bb=>by rw[mrg];split;{have:=rY a.1 a.2 (mrg c aa (b::bb));have:=aB c aa (b::bb);grind};{split;{have:=rY b.1 (b.2*c) (mrg c (a::aa) bb);have:=aB c (a::aa) bb;grind};{have:=rY a.1 (a.2+b.2*c) (mrg c aa bb);have:=aB c aa bb;grind}}
termination_by a b=>a.length+b.length
def F.merge (f g:F) (c:Rat):F:=⟨mrg c f.ts g.ts,f.c+g.c*c⟩
def F.add (f g:F):F:=f.merge g 1
def F.sub (f g:F):F:=f.merge g (-1)
def F.scale (f:F) (c:Rat):F:=F.merge ⟨[],0⟩ f c
theorem lG {c:Rat}{k m:Nat}(hc:Fits m c):∀ {a b:List (Int×Rat)},(∀ t,t∈a->Fits k t.2)->(∀ t,t∈b->Fits k t.2)->∀ u,u∈mrg c a b->Fits (2*k+m+1) u.2
 |[],[],_,_,u,h=>by grind [mrg]| a::aa,[],ha,hb,u,h=>by rw[mrg] at h;rcases qJ h with rfl|h;{exact (ha a xV).mono oM};{exact lG hc (λt ht=>ha t (xQ _ ht)) hb u h}
 |[],b::bb,ha,hb,u,h=>by rw[mrg] at h;rcases qJ h with rfl|h;{exact (yY (hb b xV) hc).mono oM};{exact lG hc ha (λt ht=>hb t (xQ _ ht)) u h}
 |a::aa,b::bb,ha,hb,u,h=>by rw[mrg] at h;split at h;{rcases qJ h with rfl|h;{exact (ha a xV).mono oM};{exact lG hc (λt ht=>ha t (xQ _ ht)) hb u h}};{split at h;{rcases qJ h with rfl|h;{exact (yY (hb b xV) hc).mono oM};{exact lG hc ha (λt ht=>hb t (xQ _ ht)) u h}};{rcases qJ h with rfl|h;{exact (uK (ha a xV) (yY (hb b xV) hc)).mono oM};{exact lG hc (λt ht=>ha t (xQ _ ht)) (λt ht=>hb t (xQ _ ht)) u h}}}
termination_by a b=>a.length+b.length
theorem okQ {p:Prop}(h:p:=by (try simp only[zA,zI] at *) <;> (try dsimp only [zY] at *) <;> omega):p:=h
theorem zU {α:Type}{l:List α}{i:Nat}{t:α}(h:l[i]?=some t):l.drop i=t::l.drop (i+1):=by grind [List.drop_eq_getElem_cons]
theorem YV (vars p:Int)(t r):vT vars p (t::r)=(decide (0<=t.1)&&decide (t.1<vars)&&decide (p<t.1)&&decide (t.2.q≠0)&&t.2.ok&&vT vars t.1 r):=rfl
theorem sgnQ_ne {q:Rat}:z3 q≠0↔q≠0:=by grind [z3]
theorem mX (a:A)(vars:Int)(ha:a.sz (2^36)):zD 151 [av a,iV vars] (bV (a.valid vars)):=by
 refine sF Tryz.f151 ?_;obtain⟨ts,c⟩:=a;have hl:=ha.t.len;have hts:=ha.t.sz;have cc:=HO c ha.c;generalize hr:A.valid vars ⟨ts,c⟩=r;have hr0:r=(vT vars (-1) ts&&c.ok):=hr.symm;simp only at hl hts cc;generalize c.ok=co at *;clear hr ha;cbv;refine zW (σ:=Nat×Int) (λs=>⟨[(1,iV vars),(2,.ptr 2 0),(8,tsv ts),(9,iV ts.length),(10,iV s.1)],[(2,.box [tsv ts,bV c.neg,nat c.num,nat c.den])]⟩)
  (λs=>s.1<=ts.length/\r=(vT vars s.2 (ts.drop s.1)&&co)/\(s.1=0->s.2=-1)/\(s.1≠0->∃ u,ts[s.1-1]?=some u/\u.1=s.2)) (λs=>ts.length-s.1)
  (0,-1) ⟨om,hr0,λ_=>rfl,λh=>absurd rfl h⟩ (.le ?_ ?_ rfl) ?_
 {cbv;exact⟨lR,lR,lR,zB (by (try dsimp only [zY] at *);rw[zA]),lR,trivial⟩};{cbv;exact okA};intro s hs;obtain⟨h1,hv,h3,h4⟩:=hs;generalize s.1=i at *;generalize s.2=p at *;cbv;refine zE (λh5=>?_) (λh5=>?_)
 ·(cbv;refine xH (l:=ts) i (by (grind) <;> (try simp only[zI] at *) <;> omega) om wG wE (λt ht=>?_);rw[zU ht,YV] at hv;have htz:=hts t (zX ht);have cs:=s86 t.2 (by have:=htz.n;omega);have cv:=HO t.2 htz;have hq:decide (t.2.q≠0)=decide (z3 t.2.q≠0):=by rw[decide_eq_decide];exact sgnQ_ne.symm);rw[hq] at hv
  (generalize z3 t.2.q=sg at *;generalize hok:t.2.ok=ok at *;obtain⟨v,x1,x2,x3⟩:=t;simp only at hv;generalize hrest:(vT vars v (ts.drop (i+1))&&co)=rest;have hv':r=(decide (0<=v)&&decide (v<vars)&&decide (p<v)&&decide (sg≠0)&&ok&&rest):=by grind);clear hv
  cbv;refine zM 37 (by cbv) ?_;cbv;refine zQ (λe1=>?_) (λe1=>?_)
  ·cbv
   (refine rC ?_;cbv)
   exact zK (by grind)
  cbv;refine zQ (λe2=>?_) (λe2=>?_)
  ·cbv
   (refine rC ?_;cbv)
   exact zK (by grind)
  (cbv;have fin:(¬(p<v)->r=false):=λh=>by grind);have hmain:(p<v)->r=(decide (sg≠0)&&ok&&rest):=λh=>by grind
  clear hv';refine zQ (λe3=>?_) (λe3=>?_)
  ·(obtain⟨u,hu,hu2⟩:=h4 om;cbv;refine⟨zC om om,xH (l:=ts) (i-1) om om wG wE (λu' hu'=>?_)⟩;have:u'=u:=by grind);subst this
   obtain⟨w,y1,y2,y3⟩:=u';simp only at hu2;cbv;refine zQ (λe4=>?_) (λe4=>?_)
   ·cbv
    (refine rC ?_;cbv)
    exact zK (fin oM)
   have hm:=hmain oM;cbv;refine dA cs ?_;cbv;refine zQ (λe5=>?_) (λe5=>?_)
   ·cbv
    (refine rC ?_;cbv)
    exact zK (by grind)
   rw[decide_eq_true e5,yN] at hm;cbv;refine dA cv ?_;cbv;refine zP (λe6=>?_) (λe6=>?_);{rw[e6,yN] at hm;cbv;exact⟨zC om om,(i+1,v),⟨om,by grind,λh=>absurd h (by simp),λ_=>⟨_,ht,rfl⟩⟩,om,.le (by cbv;exact⟨lR,lR,lR,lR,zB om,trivial⟩) (by cbv;exact okA) rfl⟩}
   ·cbv
    (refine rC ?_;cbv)
    exact zK (by grind)
  ·have hp:=h3 om;have hm:=hmain oM;cbv;refine dA cs ?_;cbv;refine zQ (λe5=>?_) (λe5=>?_)
   ·cbv
    (refine rC ?_;cbv)
    exact zK (by grind)
   rw[decide_eq_true e5,yN] at hm;cbv;refine dA cv ?_;cbv;refine zP (λe6=>?_) (λe6=>?_);{rw[e6,yN] at hm;cbv;exact⟨zC om om,(i+1,v),⟨om,by grind,λh=>absurd h (by simp),λ_=>⟨_,ht,rfl⟩⟩,om,.le (by cbv;exact⟨lR,lR,lR,lR,zB om,trivial⟩) (by cbv;exact okA) rfl⟩}
   ·cbv
    (refine rC ?_;cbv)
    exact zK (by grind)
 ·(have he:i=ts.length:=om;rw[he,wD] at hv;have hv':r=co:=by rw[hv];rfl);cbv
  refine cA cc ?_;cbv
  (refine rC ?_;cbv)
  exact z4 hv'.symm
theorem mC {rs:List ResultVar}{r:PV}{ps ps':PS}{n:Nat}{o:Obj'}(m:Nat)(hw:Wk ps ps')(h3:lv r=true)(h4:yO ps'.objs m=some (x9 (ren (λ_=>m)) o))(h5:bA o=true) (h:match dL ps' rs with
  |some l=>les (nE l) (ren (λ_=>m) r)| none=>False):RetOk rs r [] [(n,o)] ps:=by
 cases h1:dL ps' rs with
 |none=>grind| some l=>rw[h1] at h;exact⟨ps',l,λ_=>m,hw,h1,dW h,h3,⟨⟨h4,h5⟩,trivial⟩,rfl,trivial⟩
theorem cZ {rs:List ResultVar}{r:PV}{ps:PS}(ps':PS)(hw:Wk ps ps')(h3:lv r=true) (h:match dL ps' rs with
  |some l=>les (nE l) (ren id r)| none=>False):RetOk rs r [] [] ps:=by
 cases h1:dL ps' rs with
 |none=>grind| some l=>rw[h1] at h;exact⟨ps',l,id,hw,h1,dW h,h3,trivial,rfl,trivial⟩
theorem vN {p:Prop}[Decidable p]{A B:Unit->Prop}(h:p)(h1:A ()):Br (λ_=>decide p) A B:=zQ (λ_=>h1) (λg=>(g h).elim)
theorem yC {p:Prop}[Decidable p]{A B:Unit->Prop}(h:¬p)(h1:B ()):Br (λ_=>decide p) A B:=zQ (λg=>(h g).elim) (λ_=>h1)
theorem wZ {p:Prop}[Decidable p]{A B:(Exit->PS->Prop)->Prop}{Q:Exit->PS->Prop}(h:p)(h1:A Q):Cut (λ_=>decide p) A B Q:=zE (λ_=>h1) (λg=>(g h).elim)
theorem yE {p:Prop}[Decidable p]{A B:(Exit->PS->Prop)->Prop}{Q:Exit->PS->Prop}(h:¬p)(h1:B Q):Cut (λ_=>decide p) A B Q:=zE (λg=>(h g).elim) (λ_=>h1)
def pcr (l:List (Int×Rat)) (v:Int) (q:Rat):List (Int×Rat):=if q=0 then l else l++[(v,q)]
theorem fW (l:List (Int×Rat))(v:Int)(q:Rat)(r):pcr l v q++r=l++pc v q r:=by grind [pcr,pc]
abbrev avo (n len:Nat) (c:R):PV:=.agg [oV n 4 len,bV c.neg,nat c.num,nat c.den]
theorem w4 (l:List (Int×Rat)):(tR l).length=l.length:=by simp[tR]
theorem Cy (l m:List (Int×Rat)):tR (l++m)=tR l++tR m:=by simp[tR]
theorem GH:ty 30=.sli 4 64 [iV 0,.ff,.nil,.nil]:=by cbv
theorem XJ (l:List (Int×Rat))(c:R)(v:Int)(x:R)(hx:x.sz (2^36))(hl:l.length<2^39):Sound 268 [avo 100 l.length c,iV v,rv x] [] [(100,aV 4 (enc tc (tR l)))] (avo 100 (pcr l v x.q).length c) [] [(100,aV 4 (enc tc (tR (pcr l v x.q))))]:=by refine sF Tryz.f268 ?_;have cs:=s86 x (by have:=hx.n;omega);have cc:=Rz x hx;have h1:z3 x.q≠0->pcr l v x.q=l++[(v,x.q)]:=λh=>if_neg (sgnQ_ne.1 h);have h2:¬z3 x.q≠0->pcr l v x.q=l:=λh=>if_pos (by grind [sgnQ_ne]);generalize pcr l v x.q=P at *;generalize hsg:z3 x.q=sg at *;generalize hq:x.q=q at *;have hR:tR [(v,q)]=[(v,zG q)]:=rfl;generalize zG q=W at *;obtain⟨x1,x2,x3⟩:=x;obtain⟨w1,w2,w3⟩:=W;obtain⟨c1,c2,c3⟩:=c;clear hq hsg;cbv;refine cA cs ?_;cbv;refine zE (λh=>?_) (λh=>?_);{have hP:=h2 oM;clear h1 h2;subst hP;cbv;exact mC 100 (.refl _) rfl rfl rfl (by cbv;exact okA)};{have hP:=h1 oM;clear h1 h2;subst hP;cbv;refine zM 7 (by cbv) ?_;cbv;refine dA cc ?_;cbv;refine wM GH rfl rfl rfl (by simp only[zA,w4]) rfl ⟨by simp[zL,xE]⟩ (z5 oM (by simp only[zA,w4,zL,bK,iS];omega)) rfl ?_;cbv;refine mC (ps':=⟨[(6,.ptr 6 0)],[(6,.box [oV 17 4 ((l++[(v,q)]).length),bV c1,nat c2,nat c3]),(17,aV 4 (enc tc (tR (l++[(v,q)]))))]⟩) 17 (.le ?_ ?_ rfl) rfl rfl rfl ?_;{cbv;exact okA};{cbv;exact⟨⟨zZ rfl (by simp[zA,w4,zL]),lR,lR,lR,trivial⟩,zH (by rw[Cy,hR,<-xZ];rfl),trivial⟩};{cbv;exact okA}}
theorem fT (l:List (Int×Rat))(v:Int)(q:Rat):(pcr l v q).length<=l.length+1:=by grind [pcr]
theorem gV {α:Type}{p:α->List PV}{n:Nat}{a:α}{l:List α}{K:List PV->Prop}(hf:∀ a,yS qZ (p a)=true)(hn:∀ a,(p a).length=n)(hK:K (p a)):IdxOk n (λ_=>enc p (a::l)) (λ_=>0) K :=
 xH 0 rfl (by simp) hf hn (λb hb=>by grind)
theorem bZ (t:Int×R)(l):tq (t::l)=(t.1,t.2.q)::tq l:=rfl
theorem XK (f g:A)(c:R)(hf:f.sz (2^33))(hg:g.sz (2^33))(hc:c.sz (2^33)):zD 226 [av f,av g,rv c] (fv (f.f.merge g.f c.q)):=by
 refine sF Tryz.f226 ?_;obtain⟨ts,fc⟩:=f;obtain⟨us,gc⟩:=g;have hlt:=hf.t.len;have hlu:=hg.t.len;have hst:=hf.t.sz;have hsu:=hg.t.sz;have hfc:=hf.c;have hgc:=hg.c;have cfc:=hfc.fits (by decide);have cgc:=hgc.fits (by decide);have ccf:=hc.fits (by decide);simp only at hlt hlu hst hsu hfc hgc cfc cgc;have cm:=Lw gc c (hgc.mono (by decide)) (hc.mono (by decide));have ca:=Mw fc (zG (gc.q*c.q)) (hfc.mono (by decide)) (zT ((yY cgc ccf).mono (by decide)));rw[zV] at ca;show wp _ _ (dT _ (.agg [tsv (tR (mrg c.q (tq ts) (tq us))),bV ((zG (fc.q+gc.q*c.q)).neg),nat (zG (fc.q+gc.q*c.q)).num,nat (zG (fc.q+gc.q*c.q)).den]) [] []);generalize zG (fc.q+gc.q*c.q)=W at *;generalize zG (gc.q*c.q)=V at *;generalize hM:mrg c.q (tq ts) (tq us)=M;have hmul:∀ b:Int×R,b∈us->zD 267 [rv b.2,rv c] (rv (zG (b.2.q*c.q))):=λb hb=>Lw b.2 c ((hsu b hb).mono (by decide)) (hc.mono (by decide));have hmsz:∀ b:Int×R,b∈us->(zG (b.2.q*c.q)).sz (2^34):=λb hb=>zT ((yY ((hsu b hb).fits (by decide)) ccf).mono (by decide));have hadd:∀ (a b:Int×R),a∈ts->b∈us->zD 266 [rv a.2,rv (zG (b.2.q*c.q))] (rv (zG (a.2.q+b.2.q*c.q))):=λa b ha hb=>by have:=Mw a.2 (zG (b.2.q*c.q)) ((hst a ha).mono (by decide)) ((hmsz b hb).mono (by decide));rw[zV] at this;omega
 have hasz:∀ (a b:Int×R),a∈ts->b∈us->(zG (a.2.q+b.2.q*c.q)).sz (2^36):=λa b ha hb=>zT ((uK ((hst a ha).fits (by decide)) (yY ((hsu b hb).fits (by decide)) ccf)).mono (by decide));clear hf hg cfc cgc hfc hgc;generalize hcq:c.q=cq at *;obtain⟨w1,w2,w3⟩:=W;obtain⟨fc1,fc2,fc3⟩:=fc;obtain⟨gc1,gc2,gc3⟩:=gc;obtain⟨c1,c2,c3⟩:=c;cbv;refine kJ 9 (by cbv) (by cbv) ?_;cbv;refine dA cm ?_;cbv;refine dA ca ?_;cbv;refine zM 5 (by cbv) ?_;cbv;refine zW (σ:=List (Int×Rat)×List (Int×R)×List (Int×R)) (λs=>⟨[(5,.ptr 5 0),(6,.ptr 6 0),(7,.ptr 7 0),(8,tsv s.2.1),(9,tsv s.2.2)],[(5,.box [bV c1,nat c2,nat c3]),(6,.box [.nil,.ff,.nil,.nil]),(7,.box [oV 200 4 s.1.length,bV w1,nat w2,nat w3]),(200,aV 4 (enc tc (tR s.1)))]⟩)
  (λs=>M=s.1++mrg cq (tq s.2.1) (tq s.2.2)/\s.1.length+(s.2.1.length+s.2.2.length)<=ts.length+us.length/\(∀ t,t∈s.2.1->t∈ts)/\(∀ t,t∈s.2.2->t∈us)) (λs=>s.2.1.length+s.2.2.length)
  ([],ts,us) ⟨hM.symm,by simp,λ_ h=>h,λ_ h=>h⟩
  (.trans (.le (ps':=⟨[(5,.ptr 5 0),(6,.ptr 6 0),(7,.ptr 7 0),(8,tsv ts),(9,tsv us)],[(5,.box [bV c1,nat c2,nat c3]),(6,.box [.nil,.ff,.nil,.nil]),(7,.box [.nil,bV w1,nat w2,nat w3])]⟩) ?_ ?_ rfl) (.trans (.adoptB (ps:=⟨[(5,.ptr 5 0),(6,.ptr 6 0),(7,.ptr 7 0),(8,tsv ts),(9,tsv us)],[(5,.box [bV c1,nat c2,nat c3]),(6,.box [.nil,.ff,.nil,.nil]),(7,.box [.nil,bV w1,nat w2,nat w3])]⟩) (cs:=[.nil,bV w1,nat w2,nat w3]) 200 4 7 0 rfl rfl rfl) (.le ?_ ?_ rfl))) ?_
 {cbv;exact okA};{cbv;exact okA};{cbv;exact okA};{cbv;exact⟨okA,okA,⟨zZ rfl rfl,lR,lR,lR,trivial⟩,zH rfl,trivial⟩};intro s hs;obtain⟨hI,hL,hA,hB⟩:=hs;generalize s.1=out at *;generalize s.2.1=aa at *;generalize s.2.2=bb at *;cases aa with
 |nil =>
  cases bb with
  |nil =>
   (cbv;refine yC (by simp[zA]) ?_;cbv;refine yE (by simp[zA]) ?_;cbv;have hM':M=out:=by rw[hI,show tq []=[] from rfl,mrg,kN]);subst hM'
   refine cZ _ (.trans (.le (ps':=⟨[(6,.ptr 6 0)],[(6,.box [oV 200 4 M.length,bV w1,nat w2,nat w3]),(200,aV 4 (enc tc (tR M)))]⟩) ?_ ?_ rfl) (.frz 200 rfl rfl ?_ ?_)) rfl ?_;{cbv;exact okA};{cbv;exact⟨okA,zH rfl,trivial⟩};{exact⟨trivial,trivial⟩};{cbv;exact⟨⟨z8 (by simp[zA,w4]),trivial⟩,trivial⟩};{cbv;exact⟨zS (yW (by simp[zA,w4])),lR,lR,lR,trivial⟩}
  |cons b bs =>
   (have hb:=hB b xV;have cmb:=hmul b hb;have cpb:=XJ out ⟨w1,w2,w3⟩ b.1 (zG (b.2.q*cq)) ((hmsz b hb).mono (by decide)) oM;rw[zV] at cpb;have hI':M=pcr out b.1 (b.2.q*cq)++mrg cq (tq []) (tq bs):=by rw[hI,bZ,show tq []=[] from rfl,mrg,fW]);have hpl:=fT out b.1 (b.2.q*cq)
   generalize pcr out b.1 (b.2.q*cq)=out' at *;generalize zG (b.2.q*cq)=X at *;cbv;refine yC (by simp[zA]) ?_;cbv;refine wZ (by simp[zA] <;> omega) ?_;cbv;refine zM 20 (by cbv) ?_;cbv;refine yC (by simp[zA] <;> omega) ?_;cbv;refine yC (by simp[zA]) ?_;cbv;refine zM 15 (by cbv) ?_;cbv;refine vN (by simp[zA]) ?_;cbv;refine zM 11 (by cbv) ?_;cbv;refine gV wG wE ?_;cbv;refine gV wG wE ?_;cbv;refine dA cmb ?_;cbv;refine kA (λ_=>200) cpb ?_;cbv;refine⟨uT (by decide) (by simp[zA] <;> omega) (by simp[zA]),wJ wE _,?_⟩;cbv;refine⟨(out',[],bs),⟨hI',by simp at hL hpl ⊢;omega,hA,λt ht=>hB t (xQ _ ht)⟩,by simp,.le ?_ ?_ rfl⟩;{cbv;exact⟨lR,lR,lR,lR,zS (by simp[enc,yW]),trivial⟩};{cbv;exact⟨okA,okA,okA,zH rfl,trivial⟩}
 |cons a aa =>
  have ha:=hA a xV;cases bb with
  |nil =>
   (have cp:=XJ out ⟨w1,w2,w3⟩ a.1 a.2 ((hst a ha).mono (by decide)) oM;have hI':M=pcr out a.1 a.2.q++mrg cq (tq aa) (tq []):=by rw[hI,bZ,show tq []=[] from rfl,mrg,fW]);have hpl:=fT out a.1 a.2.q
   generalize pcr out a.1 a.2.q=out' at *;cbv;refine vN (by simp[zA] <;> omega) ?_;cbv;refine zM 20 (by cbv) ?_;cbv;refine vN (by simp[zA]) ?_;cbv;refine zM 9 (by cbv) ?_;cbv;refine gV wG wE ?_;cbv;refine gV wG wE ?_;cbv;refine kA (λ_=>200) cp ?_;cbv;refine⟨uT (by decide) (by simp[zA] <;> omega) (by simp[zA]),wJ wE _,?_⟩;cbv;refine⟨(out',aa,[]),⟨hI',by simp at hL hpl ⊢;omega,λt ht=>hA t (xQ _ ht),hB⟩,by simp,.le ?_ ?_ rfl⟩;{cbv;exact⟨lR,lR,lR,zS (by simp[enc,yW]),lR,trivial⟩};{cbv;exact⟨okA,okA,okA,zH rfl,trivial⟩}
  |cons b bb =>
   have hb:=hB b xV;cbv;refine vN (by grind [zA]) ?_;cbv;refine zM 20 (by cbv) ?_;cbv;refine yC (by grind [zA]) ?_;cbv;refine vN (by grind [zA]) ?_;cbv;refine gV wG wE ?_;cbv;refine gV wG wE ?_;cbv;refine zE (λhlt=>?_) (λhlt=>?_)
   ·(have cp:=XJ out ⟨w1,w2,w3⟩ a.1 a.2 ((hst a ha).mono (by decide)) oM;have hI':M=pcr out a.1 a.2.q++mrg cq (tq aa) (tq (b::bb)):=by rw[hI,bZ,bZ,mrg,if_pos (show (a.1,a.2.q).1<(b.1,b.2.q).1 from hlt),fW]);have hpl:=fT out a.1 a.2.q
    generalize pcr out a.1 a.2.q=out' at *;cbv;refine zM 9 (by cbv) ?_;cbv;refine gV wG wE ?_;cbv;refine gV wG wE ?_;cbv;refine kA (λ_=>200) cp ?_;cbv;refine⟨uT (by decide) (by simp[zA] <;> omega) (by simp[zA]),wJ wE _,?_⟩;cbv;refine⟨(out',aa,b::bb),⟨hI',by simp at hL hpl ⊢;omega,λt ht=>hA t (xQ _ ht),hB⟩,by simp,.le ?_ ?_ rfl⟩;{cbv;exact⟨lR,lR,lR,zS (by simp[enc,yW]),lR,trivial⟩};{cbv;exact⟨okA,okA,okA,zH rfl,trivial⟩}
   ·cbv;refine zM 15 (by cbv) ?_;cbv;refine yC (by grind [zA]) ?_;cbv;refine gV wG wE ?_;cbv;refine gV wG wE ?_;cbv;refine zE (λhlt2=>?_) (λhlt2=>?_)
    ·(have cmb:=hmul b hb;have cp:=XJ out ⟨w1,w2,w3⟩ b.1 (zG (b.2.q*cq)) ((hmsz b hb).mono (by decide)) oM;rw[zV] at cp;have hI':M=pcr out b.1 (b.2.q*cq)++mrg cq (tq (a::aa)) (tq bb):=by rw[hI,bZ,bZ,mrg,if_neg (show ¬(a.1,a.2.q).1<(b.1,b.2.q).1 from hlt),if_pos (show (b.1,b.2.q).1<(a.1,a.2.q).1 from hlt2),fW]);have hpl:=fT out b.1 (b.2.q*cq)
     generalize pcr out b.1 (b.2.q*cq)=out' at *;generalize zG (b.2.q*cq)=X at *;cbv;refine zM 11 (by cbv) ?_;cbv;refine gV wG wE ?_;cbv;refine gV wG wE ?_;cbv;refine dA cmb ?_;cbv;refine kA (λ_=>200) cp ?_;cbv;refine⟨uT (by decide) (by simp[zA] <;> omega) (by simp[zA]),wJ wE _,?_⟩;cbv;refine⟨(out',a::aa,bb),⟨hI',by simp at hL hpl ⊢;omega,hA,λt ht=>hB t (xQ _ ht)⟩,by simp,.le ?_ ?_ rfl⟩;{cbv;exact⟨lR,lR,lR,lR,zS (by simp[enc,yW]),trivial⟩};{cbv;exact⟨okA,okA,okA,zH rfl,trivial⟩}
    ·(have cmb:=hmul b hb;have cab:=hadd a b ha hb;have cp:=XJ out ⟨w1,w2,w3⟩ a.1 (zG (a.2.q+b.2.q*cq)) ((hasz a b ha hb).mono (by decide)) oM;rw[zV] at cp;have hI':M=pcr out a.1 (a.2.q+b.2.q*cq)++mrg cq (tq aa) (tq bb):=by rw[hI,bZ,bZ,mrg,if_neg (show ¬(a.1,a.2.q).1<(b.1,b.2.q).1 from hlt),if_neg (show ¬(b.1,b.2.q).1<(a.1,a.2.q).1 from hlt2),fW]);have hpl:=fT out a.1 (a.2.q+b.2.q*cq)
     generalize pcr out a.1 (a.2.q+b.2.q*cq)=out' at *;generalize zG (a.2.q+b.2.q*cq)=Y at *;generalize zG (b.2.q*cq)=X at *;cbv;refine zM 16 (by cbv) ?_;cbv;refine gV wG wE ?_;cbv;refine gV wG wE ?_;cbv;refine gV wG wE ?_;cbv;refine dA cmb ?_;cbv;refine dA cab ?_;cbv;refine kA (λ_=>200) cp ?_;cbv;refine zM 5 (by cbv) ?_;cbv;refine⟨uT (by decide) (by simp[zA] <;> omega) (by simp[zA]),wJ wE _,?_⟩;cbv;refine⟨uT (by decide) (by simp[zA] <;> omega) (by simp[zA]),wJ wE _,?_⟩;cbv;refine⟨(out',aa,bb),⟨hI',by simp at hL hpl ⊢;omega,λt ht=>hA t (xQ _ ht),λt ht=>hB t (xQ _ ht)⟩,by simp <;> omega,.le ?_ ?_ rfl⟩;{cbv;exact⟨lR,lR,lR,zS (by simp[enc,yW]),zS (by simp[enc,yW]),trivial⟩};{cbv;exact⟨okA,okA,okA,zH rfl,trivial⟩}
theorem oZ (z:Int)(h1:-1000<=z)(h2:z<=1000):(zG (z:Rat)).sz 1:=zT (WJ (by show z.natAbs<4294967296^1;omega) (by decide))
theorem HG (f g:A)(hf:f.sz (2^33))(hg:g.sz (2^33)):zD 231 [av f,av g] (fv (f.f.add g.f)):=by refine sF Tryz.f231 ?_;have c1:=C5 1 (by decide) (by decide);have cm:=XK f g (zG ((1:Int):Rat)) hf hg ((oZ 1 (by decide) (by decide)).mono (by decide));rw[zV] at cm;have e:f.f.merge g.f ((1:Int):Rat)=f.f.add g.f:=rfl;rw[e] at cm;generalize fA (f.f.add g.f)=W at *;generalize zG ((1:Int):Rat)=o at *;obtain⟨ft,f1,f2,f3⟩:=f;obtain⟨gt,g1,g2,g3⟩:=g;obtain⟨wt,w1,w2,w3⟩:=W;cbv;refine zM 4 (by cbv) ?_;cbv;refine dA c1 ?_;cbv;refine dA cm ?_;cbv;exact rA
theorem a9 (f g:A)(hf:f.sz (2^33))(hg:g.sz (2^33)):zD 185 [av f,av g] (fv (f.f.sub g.f)):=by refine sF Tryz.f185 ?_;have c1:=C5 (-1) (by decide) (by decide);have cm:=XK f g (zG ((-1:Int):Rat)) hf hg ((oZ (-1) (by decide) (by decide)).mono (by decide));rw[zV] at cm;have e:f.f.merge g.f ((-1:Int):Rat)=f.f.sub g.f:=rfl;rw[e] at cm;generalize fA (f.f.sub g.f)=W at *;generalize zG ((-1:Int):Rat)=o at *;obtain⟨ft,f1,f2,f3⟩:=f;obtain⟨gt,g1,g2,g3⟩:=g;obtain⟨wt,w1,w2,w3⟩:=W;cbv;refine zM 4 (by cbv) ?_;cbv;refine dA c1 ?_;cbv;refine dA cm ?_;cbv;exact rA
theorem mY (f:A)(c:R)(hf:f.sz (2^33))(hc:c.sz (2^33)):zD 186 [av f,rv c] (fv (f.f.scale c.q)):=by refine sF Tryz.f186 ?_;have cm:=XK ⟨[],⟨false,[],[]⟩⟩ f c ⟨⟨by decide,λ_ h=>absurd h (by simp)⟩,⟨by decide,by decide⟩⟩ hf hc;have e:(A.f ⟨[],⟨false,[],[]⟩⟩).merge f.f c.q=f.f.scale c.q:=rfl;rw[e] at cm;generalize fA (f.f.scale c.q)=W at *;obtain⟨ft,f1,f2,f3⟩:=f;obtain⟨c1,c2,c3⟩:=c;obtain⟨wt,w1,w2,w3⟩:=W;cbv;refine yP rfl okA cm rfl ?_;cbv;exact rA
structure Row where
 k:Int
 i:Int
 lo:Int
 hi:Int
deriving DecidableEq
structure Mult where
 row:Row
 c:R
deriving DecidableEq
structure Dec where
 k:Int
 i:Int
 x:R
structure Lem where
 u:Int
 up:Bool
 v:R
 pf:List Mult
structure Grp where
 n:Int
 us:List A
 os:List A
structure Reg where
 lo:List R
 hi:List R
 rows:List A
structure Qry where
 g:Grp
 r:Reg
 goal:A
structure Scp where
 q:Qry
 path:List Dec
 lems:List Lem
abbrev rlv (l:List R):PV:=.sl (λ_=>enc rc l)
abbrev alv (l:List A):PV:=.sl (λ_=>enc ac l)
abbrev rwc (r:Row):List PV:=[iV r.k,iV r.i,iV r.lo,iV r.hi]
abbrev rwv (r:Row):PV:=.agg [iV r.k,iV r.i,iV r.lo,iV r.hi]
def mc (m:Mult):List PV:=[iV m.row.k,iV m.row.i,iV m.row.lo,iV m.row.hi,bV m.c.neg,nat m.c.num,nat m.c.den]
abbrev mlv (l:List Mult):PV:=.sl (λ_=>enc mc l)
def dc (d:Dec):List PV:=[iV d.k,iV d.i,bV d.x.neg,nat d.x.num,nat d.x.den]
abbrev dv (d:Dec):PV:=.agg [iV d.k,iV d.i,bV d.x.neg,nat d.x.num,nat d.x.den]
abbrev dlv (l:List Dec):PV:=.sl (λ_=>enc dc l)
def lc (l:Lem):List PV:=[iV l.u,bV l.up,bV l.v.neg,nat l.v.num,nat l.v.den,mlv l.pf]
abbrev lv' (l:Lem):PV:=.agg [iV l.u,bV l.up,bV l.v.neg,nat l.v.num,nat l.v.den,mlv l.pf]
abbrev llv (l:List Lem):PV:=.sl (λ_=>enc lc l)
abbrev gv (g:Grp):PV:=.agg [iV g.n,alv g.us,alv g.os]
abbrev rgv (r:Reg):PV:=.agg [rlv r.lo,rlv r.hi,alv r.rows]
abbrev qv (q:Qry):PV:=.agg [iV q.g.n,alv q.g.us,alv q.g.os,rlv q.r.lo,rlv q.r.hi,alv q.r.rows,tsv q.goal.ts,bV q.goal.c.neg,nat q.goal.c.num,nat q.goal.c.den]
abbrev sv (s:Scp):PV:=.agg [iV s.q.g.n,alv s.q.g.us,alv s.q.g.os,rlv s.q.r.lo,rlv s.q.r.hi,alv s.q.r.rows,tsv s.q.goal.ts,bV s.q.goal.c.neg,nat s.q.goal.c.num,nat s.q.goal.c.den,dlv s.path,llv s.lems]
def sc (s:Scp):List PV:=[iV s.q.g.n,alv s.q.g.us,alv s.q.g.os,rlv s.q.r.lo,rlv s.q.r.hi,alv s.q.r.rows,tsv s.q.goal.ts,bV s.q.goal.c.neg,nat s.q.goal.c.num,nat s.q.goal.c.den,dlv s.path,llv s.lems]
theorem wY (a:Mult):yS qZ (mc a)=true:=rfl
theorem xN (a:Mult):(mc a).length=7:=rfl
theorem uW (a:Dec):yS qZ (dc a)=true:=rfl
theorem qN (a:Dec):(dc a).length=5:=rfl
theorem y0 (a:Lem):yS qZ (lc a)=true:=rfl
theorem xD (a:Lem):(lc a).length=6:=rfl
structure Asz (k:Nat) (l:List A):Prop where
 len:l.length<2^38
 sz:∀ a,a∈l->a.sz k
structure Rsz (k:Nat) (l:List R):Prop where
 len:l.length<2^38
 sz:∀ a,a∈l->a.sz k
structure Msz (k:Nat) (l:List Mult):Prop where
 len:l.length<2^38
 sz:∀ a,a∈l->a.c.sz k
structure Dsz (k:Nat) (l:List Dec):Prop where
 len:l.length<2^38
 sz:∀ a,a∈l->a.x.sz k
structure Lsz (k:Nat) (l:List Lem):Prop where
 len:l.length<2^38
 sz:∀ a,a∈l->a.v.sz k
 pf:∀ a,a∈l->Msz k a.pf
structure Grp.sz (g:Grp) (k:Nat):Prop where
 us:Asz k g.us
 os:Asz k g.os
structure Reg.sz (r:Reg) (k:Nat):Prop where
 lo:Rsz k r.lo
 hi:Rsz k r.hi
 rows:Asz k r.rows
structure Qry.sz (q:Qry) (k:Nat):Prop where
 g:q.g.sz k
 r:q.r.sz k
 goal:q.goal.sz k
structure Scp.sz (s:Scp) (k:Nat):Prop where
 q:s.q.sz k
 path:Dsz k s.path
 lems:Lsz k s.lems
theorem Asz.mono {k m:Nat}{l}(h:Asz k l)(hm:k<=m):Asz m l:=⟨h.len,λa ha=>(h.sz a ha).mono hm⟩
theorem Rsz.mono {k m:Nat}{l}(h:Rsz k l)(hm:k<=m):Rsz m l:=⟨h.len,λa ha=>(h.sz a ha).mono hm⟩
theorem Msz.mono {k m:Nat}{l}(h:Msz k l)(hm:k<=m):Msz m l:=⟨h.len,λa ha=>(h.sz a ha).mono hm⟩
theorem Dsz.mono {k m:Nat}{l}(h:Dsz k l)(hm:k<=m):Dsz m l:=⟨h.len,λa ha=>(h.sz a ha).mono hm⟩
theorem Lsz.mono {k m:Nat}{l}(h:Lsz k l)(hm:k<=m):Lsz m l:=⟨h.len,λa ha=>(h.sz a ha).mono hm,λa ha=>(h.pf a ha).mono hm⟩
theorem Grp.sz.mono {k m:Nat}{g:Grp}(h:g.sz k)(hm:k<=m):g.sz m:=⟨h.us.mono hm,h.os.mono hm⟩
theorem Reg.sz.mono {k m:Nat}{g:Reg}(h:g.sz k)(hm:k<=m):g.sz m:=⟨h.lo.mono hm,h.hi.mono hm,h.rows.mono hm⟩
theorem Qry.sz.mono {k m:Nat}{g:Qry}(h:g.sz k)(hm:k<=m):g.sz m:=⟨h.g.mono hm,h.r.mono hm,h.goal.mono hm⟩
theorem Scp.sz.mono {k m:Nat}{g:Scp}(h:g.sz k)(hm:k<=m):g.sz m:=⟨h.q.mono hm,h.path.mono hm,h.lems.mono hm⟩
def vU:Int->List A->Bool
 |_,[]=>true| k,f::r=>f.valid k&&vU (k+1) r
def Grp.vars (g:Grp):Int:=g.n+g.us.length
def Grp.valid (g:Grp):Bool:=decide (1<=g.n/\g.n<=256/\g.us.length<=1024/\1<=g.os.length/\g.os.length<=256)&&vU g.n g.us&&g.os.all (A.valid g.vars)
def vB:List R->List R->Bool
 |l::ls,h::hs=>l.ok&&h.ok&&decide (wK l.q h.q<=0)&&vB ls hs| _,_=>true
def Reg.valid (n:Int) (r:Reg):Bool:=decide (1<=n/\n<=256/\(r.lo.length:Int)=n/\(r.hi.length:Int)=n/\r.rows.length<=256)&&vB r.lo r.hi&&r.rows.all (A.valid n)
def Qry.valid (q:Qry):Bool:=q.g.valid&&q.r.valid q.g.n&&q.goal.valid q.g.vars
def Dec.fits (q:Qry) (d:Dec):Bool :=
 if d.k=1\/d.k=2 then decide (0<=d.i/\d.i<q.g.us.length)&&decide (d.x=⟨false,[],[]⟩)
 else if d.k=3\/d.k=4 then decide (0<=d.i/\d.i<q.g.n)&&d.x.ok
 else false
def wH {α:Type} (P:α->Bool):List α->Int
 |[]=>-1| a::r=>if P a then 0 else if wH P r<0 then -1 else wH P r+1
theorem aG {α:Type}(P:α->Bool):∀ l:List α,-1<=wH P l
 |[]=>by simp[wH]| a::r=>by grind [wH]
theorem WE {α:Type}(P:α->Bool):∀ l:List α,0<=wH P l↔l.any P=true
 |[]=>by simp[wH]| a::r=>by have ih:=WE P r;rw[Vu,Kq,<-ih];rw[show wH P (a::r)=if P a then 0 else if wH P r<0 then -1 else wH P r+1 from rfl];grind
theorem Jv {α:Type}(P:α->Bool)(l:List α):decide (0<=wH P l)=l.any P:=by rw[rS,decide_eq_true_eq,WE]
theorem les_refl:∀ a:PV,les a a
 |.agg cs=>allLe_refl1 cs| .tup cs=>allLe_refl1 cs| .fn f cs=>⟨nqb_self f,allLe_refl1 cs⟩| .int k n=>lR| .tt=>lR| .ff=>lR| .bool b=>lR| .nbool b=>lR| .str s=>lR| .nil=>lR| .sl els=>lR| .ptr n o=>lR| .aptr n s i o=>lR| .dptr cs o=>lR| .osl n s o l=>lR| .nilf=>lR| .nilp=>lR| .mpv n=>lR| .emp=>lR| .any=>lR
where
 les1_refl:∀ a:PV,Ji a a
  |.agg cs=>allLeS_refl cs| .tup cs=>allLeS_refl cs| .fn f cs=>lR| .int k n=>lR| .tt=>lR| .ff=>lR| .bool b=>lR| .nbool b=>lR| .str s=>lR| .nil=>lR| .sl els=>lR| .ptr n o=>lR| .aptr n s i o=>lR| .dptr cs o=>lR| .osl n s o l=>lR| .nilf=>lR| .nilp=>lR| .mpv n=>lR| .emp=>lR| .any=>lR
 allLeS_refl:∀ l:List PV,jA LeS l l
  |[]=>trivial| a::r=>⟨nK a,allLeS_refl r⟩
 allLe_refl1:∀ l:List PV,jA Ji l l
  |[]=>trivial| a::r=>⟨les1_refl a,allLe_refl1 r⟩
theorem lO:∀ l:List PV,jA les l l
 |[]=>trivial| a::r=>⟨les_refl a,lO r⟩
theorem dX (l:List PV):jA Ji l l:=les_refl.allLe_refl1 l
def VE (T:List (Nat×PV)):List Nat->List (Nat×PV)
 |[]=>[]| t::r=>(t,zF T t)::VE T r
def iB (O:List (Nat×Obj')):List Nat->List (Nat×Obj')
 |[]=>[]
 |n::r=>(match yO O n with
  |some o=>(n,o)::iB O r| none=>iB O r)
def ndN:List Nat->Bool
 |[]=>true| n::r=>!(yG n r)&&ndN r
theorem Jy:∀ (hs:List (PV×(Unit->Nat))),hLe hs hs
 |[]=>trivial| (v,k)::r=>⟨⟨lR,lR⟩,Jy r⟩
theorem H0:∀ o:Obj',VB o o
 |.mat s r hs=>⟨nqb_self s,⟨rfl⟩,Jy hs⟩| .mp t k=>⟨nqb_self t,⟨rfl⟩⟩| .box cs=>lO cs| .arr s e=>⟨nqb_self s,⟨rfl⟩⟩| .log s e=>⟨nqb_self s,⟨rfl⟩⟩| .lent s e=>⟨nqb_self s,⟨rfl⟩⟩
theorem Fx (T:List (Nat×PV)):∀ L,leT T (VE T L)
 |[]=>trivial| t::r=>⟨les_refl _,Fx T r⟩
theorem QO (O:List (Nat×Obj')):∀ M,leO O (iB O M)
 |[]=>trivial| n::r=>by
  unfold iB;cases h:yO O n with
  |none=>exact QO O r| some o =>
   refine⟨?_,QO O r⟩;rw[h];exact H0 o
theorem WG (O:List (Nat×Obj'))(m:Nat):∀ M,yG m M=false->DU m (iB O M)=false
 |[],_=>rfl| n::r,h=>by
  simp only[yG,Dd] at h;unfold iB;cases yO O n with
  |none=>exact WG O m r h.2| some o =>
   simp only[DU,Dd];refine⟨?_,WG O m r h.2⟩;grind
theorem QF (O:List (Nat×Obj')):∀ M,ndN M=true->ndO (iB O M)=true
 |[],_=>rfl| n::r,h=>by
  simp only[ndN,yK,Vq] at h;unfold iB;cases yO O n with
  |none=>exact QF O r h.2| some o =>
   simp only[ndO,yK,Vq];exact⟨WG O n r h.1,QF O r h.2⟩
theorem Wk.sel (ps:PS)(L M:List Nat)(h:ndN M=true):Wk ps ⟨VE ps.tmps L,iB ps.objs M⟩:=.le (Fx _ _) (QO _ _) (QF _ _ h)
theorem mF {g as_ dst ps K f caps args' r}(L M:List Nat)(hM:ndN M=true)(h1:ev (zF (VE ps.tmps L)) g=.fn f caps)(h2:jA les (evs (ev (zF (VE ps.tmps L))) as_++caps) args')(h3:zD f args' r)(h5:nmIn [] r=true) (h4:K (put ⟨VE ps.tmps L,iB ps.objs M⟩ dst r)):CallOk g as_ dst ps K:=qF (Wk.sel ps L M hM) h1 h2 h3 h5 h4
theorem WR {ops:List Oper}{ps:PS}{K:PS->Prop}(k:Nat)(L M:List Nat)(hM:ndN M=true)(hd:pC ops k=true)(h:Yb ops [] (yL (ops.take k)) (iB ps.objs M) (ops.take k) 0 (VE ps.tmps L) (iB ps.objs M) (λT O=>We (yL (ops.take k)) T (jZ ops (ops.drop k) ⟨T,O⟩ K)))(hm:(ndO (yL (ops.take k))&&QI ⟨VE ps.tmps L,iB ps.objs M⟩ (yL (ops.take k)))=true:=by cbv):DrawK ops ps K :=
 .ef k [] _ (Wk.sel ps L M hM) hd rfl hm h
theorem WS {ops:List Oper}{ps:PS}{K:PS->Prop}(k:Nat)(L M:List Nat)(hM:ndN M=true)(hd:pC ops k=true)(hm:(ndO (yL (ops.take k))&&QI ⟨VE ps.tmps L,iB ps.objs M⟩ (yL (ops.take k)))=true) (h:Yb ops [] (yL (ops.take k)) (iB ps.objs M) (ops.take k) 0 (VE ps.tmps L) (iB ps.objs M) (λT O=>We (yL (ops.take k)) T (jZ ops (ops.drop k) ⟨T,O⟩ K))):DrawK ops ps K :=
 .ef k [] _ (Wk.sel ps L M hM) hd rfl hm h
theorem Ll (P:A->Bool)(l:List A)(hl:l.length<2^40)(g:FuncId)(caps:List PV)(hg:∀ a,a∈l->zD g (.agg (ac a)::caps) (bV (P a))):zD 245 [.sl (λ_=>enc ac l),.fn g caps] (iV (wH P l)):=by
 refine sF Tryz.f245 ?_;generalize hr:wH P l=r;cbv;refine zW (σ:=Nat) (λi=>⟨[(0,.sl (λ_=>enc ac l)),(1,.fn g caps),(7,iV l.length),(8,iV i)],[]⟩)
  (λi=>i<=l.length/\r=(if wH P (l.drop i)<0 then -1 else wH P (l.drop i)+i)) (λi=>l.length-i) 0 ⟨om,?_⟩ (.le ?_ ?_ rfl) ?_
 {rw[xM,hr];have:=aG P l;omega};{cbv;exact⟨lR,(by cases caps <;> first|trivial|grind [les_refl.les1_refl,dX]),zB (by (try dsimp only [zY] at *);rw[zA]),lR,trivial⟩};{cbv};intro i hs;obtain⟨h1,h2⟩:=hs;cbv;refine zE (λh5=>?_) (λh5=>?_)
 ·cbv;refine xH (l:=l) i (by (grind) <;> (try simp only[zI] at *) <;> omega) om qS j6 (λt ht=>?_);have hc:=hg t (zX ht);rw[zU ht,show wH P (t::l.drop (i+1))=if P t then 0 else if wH P (l.drop (i+1))<0 then -1 else wH P (l.drop (i+1))+1 from rfl] at h2;have hge:=aG P (l.drop (i+1));generalize P t=p at *;generalize hk:wH P (l.drop (i+1))=k at *;cbv;refine yP rfl (by exact⟨les_refl _,lO caps⟩) hc rfl ?_;cbv;refine zP (λh6=>?_) (λh6=>?_)
  ·subst h6;cbv
   (refine rC ?_;cbv)
   exact zB (by (try dsimp only [zY] at *);grind)
  ·subst h6;cbv;refine⟨zC om om,i+1,⟨om,?_⟩,om,.le ?_ ?_ rfl⟩
   ·(try dsimp only [zY] at *)
    grind
   {cbv;exact⟨lR,(by cases caps <;> first|trivial|grind [les_refl.les1_refl,dX]),lR,zB om,trivial⟩};{cbv}
 ·have:i=l.length:=om;rw[this,wD] at h2;cbv
  (refine rC ?_;cbv)
  exact zB (by rw[h2];simp[wH])
theorem PU (P:A->Bool)(l:List A)(hl:l.length<2^40)(g:FuncId)(caps:List PV)(hg:∀ a,a∈l->zD g (.agg (ac a)::caps) (bV (P a))):zD 195 [.sl (λ_=>enc ac l),.fn g caps] (bV (l.any P)):=by refine sF Tryz.f195 ?_;have hc:=Ll P l hl g caps hg;rw[<-Jv];generalize wH P l=k at *;cbv;refine yP rfl (by exact⟨lR,⟨nqb_self g,dX caps⟩,trivial⟩) hc rfl ?_;cbv;exact rA
theorem Ae:Pg.funcs[120]?=some Tryz.f120:=by rw[uZ];rfl
theorem Lk (P:Dec->Bool)(l:List Dec)(hl:l.length<2^40)(g:FuncId)(caps:List PV)(hg:∀ a,a∈l->zD g (.agg (dc a)::caps) (bV (P a))):zD 120 [.sl (λ_=>enc dc l),.fn g caps] (iV (wH P l)):=by
 refine aW Ae rfl rfl rfl rfl rfl ?_;generalize hr:wH P l=r;cbv;refine zW (σ:=Nat) (λi=>⟨[(0,.sl (λ_=>enc dc l)),(1,.fn g caps),(7,iV l.length),(8,iV i)],[]⟩)
  (λi=>i<=l.length/\r=(if wH P (l.drop i)<0 then -1 else wH P (l.drop i)+i)) (λi=>l.length-i) 0 ⟨om,?_⟩ (.le ?_ ?_ rfl) ?_
 {rw[xM,hr];have:=aG P l;omega};{cbv;exact⟨lR,(by cases caps <;> first|trivial|grind [les_refl.les1_refl,dX]),zB (by (try dsimp only [zY] at *);rw[zA]),lR,trivial⟩};{cbv};intro i hs;obtain⟨h1,h2⟩:=hs;cbv;refine zE (λh5=>?_) (λh5=>?_)
 ·cbv;refine xH (l:=l) i (by (grind) <;> (try simp only[zI] at *) <;> omega) om uW qN (λt ht=>?_);have hc:=hg t (zX ht);rw[zU ht,show wH P (t::l.drop (i+1))=if P t then 0 else if wH P (l.drop (i+1))<0 then -1 else wH P (l.drop (i+1))+1 from rfl] at h2;have hge:=aG P (l.drop (i+1));generalize P t=p at *;generalize hk:wH P (l.drop (i+1))=k at *;cbv;refine yP rfl (by exact⟨les_refl _,lO caps⟩) hc rfl ?_;cbv;refine zP (λh6=>?_) (λh6=>?_)
  ·subst h6;cbv
   (refine rC ?_;cbv)
   exact zB (by (try dsimp only [zY] at *);grind)
  ·subst h6;cbv;refine⟨zC om om,i+1,⟨om,?_⟩,om,.le ?_ ?_ rfl⟩
   ·(try dsimp only [zY] at *)
    grind
   {cbv;exact⟨lR,(by cases caps <;> first|trivial|grind [les_refl.les1_refl,dX]),lR,zB om,trivial⟩};{cbv}
 ·have:i=l.length:=om;rw[this,wD] at h2;cbv
  (refine rC ?_;cbv)
  exact zB (by rw[h2];simp[wH])
theorem PT (P:Dec->Bool)(l:List Dec)(hl:l.length<2^40)(g:FuncId)(caps:List PV)(hg:∀ a,a∈l->zD g (.agg (dc a)::caps) (bV (P a))):zD 135 [.sl (λ_=>enc dc l),.fn g caps] (bV (l.any P)):=by refine sF Tryz.f135 ?_;have hc:=Lk P l hl g caps hg;rw[<-Jv];generalize wH P l=k at *;cbv;refine yP rfl (by exact⟨lR,⟨nqb_self g,dX caps⟩,trivial⟩) hc rfl ?_;cbv;exact rA
end Go.Proofs.YtaeaffgjdcigoaaGreat
