/- A part of the proof: RdA, RdB, LwA, LwB, PlD, BrA, BrB, SpA, SpB. -/
import Derived.Test.YtaeaffgjdcigoaaGreatW25
import Derived.Test.YtaeaffgjdcigoaaGreatW23
import Derived.Test.YtaeaffgjdcigoaaGreatW21
import Derived.Test.YtaeaffgjdcigoaaGreatRows
import Derived.Deep.Slices
import Derived.Deep.Strs
import Derived.Lib.SmallJoins
import Derived.KernelRfl
import Derived.ProofKit
import Derived.OpenShut
import Derived.ReadAgain
import Derived.ChangeStays
import Derived.Test.YtaeaffgjdcigoaaGreatW20
set_option linter.all false
namespace Go.Proofs.YtaeaffgjdcigoaaGreat
open Go
set_option maxRecDepth 100000
set_option maxHeartbeats 2000000
def v7 (a b:Row):Bool:=if a.k=b.k then (if a.i=b.i then (if a.lo=b.lo then decide (a.hi<b.hi) else decide (a.lo<b.lo)) else decide (a.i<b.i)) else decide (a.k<b.k)
theorem VP (a b:Row):v7 a b=decide (dF a b<0):=by unfold v7 dF orI cI;rw[r8];split <;> (try split) <;> (try split) <;> simp only[decide_eq_true_eq] <;> (repeat' split) <;> omega
def R5 (a b:Row):zC 173 [rwv a,rwv b] (zL (v7 a b)):=by
 refine sF Tryz.f173 ?_;have h1:¬a.k=b.k->v7 a b=decide (a.k<b.k):=λh=>if_neg h;have h2:a.k=b.k->¬a.i=b.i->v7 a b=decide (a.i<b.i):=λh g=>by unfold v7;grind
 have h3:a.k=b.k->a.i=b.i->¬a.lo=b.lo->v7 a b=decide (a.lo<b.lo):=λh g e=>by unfold v7;grind
 have h4:a.k=b.k->a.i=b.i->a.lo=b.lo->v7 a b=decide (a.hi<b.hi):=λh g e=>by unfold v7;grind
 generalize v7 a b=r at *;cbv;refine zF (λe1=>?_) (λe1=>?_)
 ·cbv;refine zF (λe2=>?_) (λe2=>?_)
  ·cbv;refine zF (λe3=>?_) (λe3=>?_)
   ·have h:=h4 e1 e2 e3;cbv
    (refine rC ?_;cbv)
    exact zX h.symm
   ·have h:=h3 e1 e2 e3;cbv
    (refine rC ?_;cbv)
    exact zX h.symm
  ·have h:=h2 e1 e2;cbv
   (refine rC ?_;cbv)
   exact zX h.symm
 ·have h:=h1 e1;cbv
  (refine rC ?_;cbv)
  exact zX h.symm
def Tf (l:List Mult)(hl:Msz (2^32) l):zC 199 [mlv l] (zL (qH none l)):=by
 refine sF Tryz.f199 ?_;have hll:=hl.len;have hls:=hl.sz;generalize hr:qH none l=r;cbv;refine z7 (σ:=Nat×Option Row) (λs=>⟨[(0,mlv l),(3,iV s.1)],[]⟩)
  (λs=>s.1<=l.length/\r=qH s.2 (l.drop s.1)/\(s.1=0->s.2=none)/\(s.1≠0->∃ u,l[s.1-1]?=some u/\s.2=some u.row)) (λs=>l.length-s.1)
  (0,none) ⟨om,hr.symm,λ_=>rfl,λh=>absurd rfl h⟩ (.le ?_ ?_ rfl) ?_
 {cbv;exact okA};{cbv};clear hr;intro s hs;obtain⟨h1,hv,h3,h4⟩:=hs;generalize s.1=i at *
 generalize s.2=p at *;cbv;refine zF (λh5=>?_) (λh5=>?_)
 ·(have hlt:i<l.length:=by rw[zA] at h5;exact om);obtain⟨t,ht⟩:=zS hlt
  (have idx:∀ {K:List PV->Prop},K (mc t)->IdxOk 7 (λ_=>enc mc l) (λ_=>(i:Int)) K:=λhK=>xQ (l:=l) i rfl hlt vA xS (λm' hm'=>by grind);have htz:=hls t (z3 ht);have cs:=s35 t.c (by have:=htz.n;omega);have cv:=FI t.c htz;have hd:l.drop i=t::l.drop (i+1):=zY ht;have hvn:(¬0<yA t.c.q->r=false):=λh=>by grind [qH]);have hvo:t.c.ok=false->r=false:=λh=>by grind [qH]
  have hv0:0<yA t.c.q->t.c.ok=true->p=none->r=qH (some t.row) (l.drop (i+1)):=λh g e=>by rw[hv,hd,e];show (decide (0<yA t.c.q)&&(t.c.ok&&(true&&qH (some t.row) (l.drop (i+1)))))=_;grind
  (have hv1:∀ w,0<yA t.c.q->t.c.ok=true->p=some w->r=(v7 w t.row&&qH (some t.row) (l.drop (i+1))):=λw h g e=>by grind [VP,qH]);clear hv
  generalize yA t.c.q=sg at *;generalize t.c.ok=ok at *;generalize hrest:qH (some t.row) (l.drop (i+1))=rest at *;cbv;refine zM 35 (by cbv) ?_;cbv;refine idx ?_;cbv;refine dA cv ?_;cbv;refine yB (λe2=>?_) (λe2=>?_)
  rotate_left
  ·cbv
   (refine rC ?_;cbv)
   exact zK (hvo e2)
  cbv;refine idx ?_;cbv;refine dA cs ?_;cbv;refine zQ (λe1=>?_) (λe1=>?_)
  ·cbv
   (refine rC ?_;cbv)
   exact zK (hvn oM)
  cbv;refine zQ (λe3=>?_) (λe3=>?_)
  ·(cbv;obtain⟨u,hu,hu2⟩:=h4 om;have cc:=R5 u.row t.row;have hvv:=hv1 u.row oM e2 hu2;generalize v7 u.row t.row=cr at *;refine⟨zD om om,xQ (l:=l) (i-1) om om vA xS (λu' hu'=>?_)⟩;obtain rfl:u'=u:=by grind);cbv
   refine idx ?_;cbv;refine dA cc ?_;cbv;refine zO (λe4=>?_) (λe4=>?_);{rw[e4,yW] at hvv;cbv;exact⟨zD om om,(i+1,some t.row),⟨om,hvv.trans hrest.symm,λh=>absurd h (by simp),λ_=>⟨_,ht,rfl⟩⟩,om,.le (by cbv;exact⟨lR,zB om,trivial⟩) (by cbv) rfl⟩}
   ·cbv
    (refine rC ?_;cbv)
    exact zK (by grind)
  {cbv;have hvv:=hv0 oM e2 (h3 om);exact⟨zD om om,(i+1,some t.row),⟨om,hvv.trans hrest.symm,λh=>absurd h (by simp),λ_=>⟨_,ht,rfl⟩⟩,om,.le (by cbv;exact⟨lR,zB om,trivial⟩) (by cbv) rfl⟩}
 ·(have:i=l.length:=by rw[zA] at h5;exact om);rw[this,vE] at hv
  have hv':r=true:=hv;cbv
  (refine rC ?_;cbv)
  exact yV hv'
def l9:List Mult->List Mult->Bool
 |[],[]=>true| a::r,b::q=>decide (a.row=b.row)&&(decide (a.c=b.c)&&l9 r q)| _,_=>false
def iN:∀ l,l9 l l=true
 |[]=>rfl| a::r=>by unfold l9;simp[iN r]
def VJ:∀ {l m:List Mult},l.length≠m.length->l9 l m=false
 |[],[],h=>absurd rfl h| a::r,b::q,h=>by unfold l9;rw[VJ (λe=>h (by simp[e]))];simp| [],b::q,_=>rfl| a::r,[],_=>rfl
def Gj (a b:List Mult)(ha:Msz (2^32) a)(hb:Msz (2^32) b):zC 40 [mlv a,mlv b] (zL (l9 a b)):=by
 refine sF Tryz.f40 ?_;have hal:=ha.len;have hbl:=hb.len;have has_:=ha.sz;have hbs:=hb.sz;have hne:=λh=>VJ (l:=a) (m:=b) h;have hcons:∀ x r y q,l9 (x::r) (y::q)=(decide (x.row=y.row)&&(decide (x.c=y.c)&&l9 r q)):=λ_ _ _ _=>rfl;have hnil:l9 [] []=true:=rfl;obtain⟨S,hS⟩:=ex l9;rw[hS] at hne hcons hnil ⊢;clear hS ha hb;generalize hr:S a b=r at *;cbv;refine zF (λe0=>?_) (λe0=>?_)
 rotate_left
 ·have hr':=hne (λe=>e0 (by grind [zA]));cbv
  (refine rC ?_;cbv)
  exact zK hr'
 have hlen:a.length=b.length:=by rw[zA,zA] at e0;exact om
 cbv;refine z7 (σ:=Nat) (λi=>⟨[(0,mlv a),(1,mlv b),(5,iV i)],[]⟩)
  (λi=>i<=a.length/\r=S (a.drop i) (b.drop i)) (λi=>a.length-i) 0 ⟨om,hr.symm⟩ (.le ?_ ?_ rfl) ?_
 {cbv;exact okA};{cbv};clear hr hne e0;intro i hi;obtain⟨h1,h2⟩:=hi;cbv;refine zF (λh5=>?_) (λh5=>?_)
 ·(have hlt:i<a.length:=by rw[zA] at h5;exact om);obtain⟨x,hx⟩:=zS hlt
  obtain⟨y,hy⟩:=zS (l:=b) (i:=i) oM;have idx:∀ {K:List PV->Prop},K (mc x)->IdxOk 7 (λ_=>enc mc a) (λ_=>(i:Int)) K:=λhK=>xQ (l:=a) i rfl hlt vA xS (λm' hm'=>by grind);have idy:∀ {K:List PV->Prop},K (mc y)->IdxOk 7 (λ_=>enc mc b) (λ_=>(i:Int)) K:=λhK=>xQ (l:=b) i rfl oM vA xS (λm' hm'=>by grind);have cs:=s69 x.c y.c (has_ x (z3 hx)) (hbs y (z3 hy));rw[zY hx,zY hy,hcons] at h2;generalize hrest:S (a.drop (i+1)) (b.drop (i+1))=rest at *;generalize decide (x.c=y.c)=ec at *;clear hcons;cbv;refine zM 25 (by cbv) ?_;cbv;refine idx ?_;cbv;refine idy ?_;cbv;refine CV ?_;cbv;refine yB (λe1=>?_) (λe1=>?_)
  ·(have e1':decide (x.row=y.row)=false:=by grind);rw[e1'] at h2
   cbv
   (refine rC ?_;cbv)
   exact zK h2
  (have e1':decide (x.row=y.row)=true:=by grind);rw[e1',yW] at h2
  cbv;refine idx ?_;cbv;refine idy ?_;cbv;refine dA cs ?_;cbv;refine zO (λe2=>?_) (λe2=>?_);{rw[e2,yW] at h2;cbv;exact⟨zD om om,i+1,⟨om,h2.trans hrest.symm⟩,om,.le (by cbv;exact⟨lR,lR,zB om,trivial⟩) (by cbv) rfl⟩}
  ·cbv
   (refine rC ?_;cbv)
   exact zK (by grind)
 ·(have hi':i=a.length:=by rw[zA] at h5;exact om);rw[hi',vE,hlen,vE,hnil] at h2
  cbv
  (refine rC ?_;cbv)
  exact yV h2
def plM (r:Row) (q:Rat):List (Row×Rat)->List (Row×Rat)
 |[]=>[(r,q)]| t::rest=>if v7 t.1 r=true then t::plM r q rest else if t.1=r then (r,t.2+q)::rest else (r,q)::t::rest
def plMq (l:List (Row×Rat)) (r:Row) (q:Rat):List (Row×Rat):=if yA q=0 then l else plM r q l
def TY {l:List (Row×Rat)}{i:Nat}{t:Row×Rat}(h:l[i]?=some t):(mR l)[i]?=some ⟨t.1,zI t.2⟩:=by grind [mR]
def S6 (l:List (Row×Rat))(n:Nat):(mR l).take n=mR (l.take n):=by simp[mR,Zu]
structure Mfit (k:Nat) (l:List (Row×Rat)):Prop where
 len:l.length<2^37
 fit:∀ t,t∈l->Fits k t.2
def Y9 {α:Type}{p:α->List PV}{n:Nat}(hn:∀ a,(p a).length=n)(l:List α)(a b:Nat):Wid n (λ_=>((enc p l).take a).drop b):=⟨λe he=>(xE hn l).h e (aE (Uu he))⟩
def Tk (l:List (Row×Rat))(r:Row)(c:R)(hl:Mfit (2^30) l)(hc:c.sz (2^30)):zC 112 [mlv (mR l),rwv r,rv c] (mlv (mR (plMq l r c.q))):=by
 refine sF Tryz.f112 ?_;have cs:=s35 c (by have:=hc.n;omega);have cc:=s47 c (hc.mono (by decide));have hadd:∀ t,t∈l->zC 18 [rv (zI t.2),rv c] (rv (zI (t.2+c.q))):=λt ht=>by have:=s44 (zI t.2) c ((zU (hl.fit t ht)).mono (by decide)) (hc.mono (by decide));rw[z6] at this;omega
 have hll:=hl.len;have d0:yA c.q=0->plMq l r c.q=l:=λh=>if_pos h;have d1:¬yA c.q=0->plMq l r c.q=plM r c.q l:=λh=>if_neg h;have hless:∀ t:Row×Rat,zC 173 [rwv t.1,rwv r] (zL (v7 t.1 r)):=λt=>R5 t.1 r;have hpn:plM r c.q []=[(r,c.q)]:=rfl;have hpc:∀ t rest,plM r c.q (t::rest)=if v7 t.1 r=true then t::plM r c.q rest else if t.1=r then (r,t.2+c.q)::rest else (r,c.q)::t::rest:=λ_ _=>rfl
 obtain⟨G,hG⟩:=ex (plM r c.q);rw[hG] at d1 hpn hpc;generalize plMq l r c.q=M at *;generalize yA c.q=sg at *;generalize hcq:c.q=q at *;clear hG hl hc hcq;cbv;refine cA cs ?_;cbv;refine zF (λe0=>?_) (λe0=>?_);{have hM:=d0 e0;cbv;subst hM;exact rA};have hM:=d1 e0;clear d0 d1 cs;cbv;refine z7 (σ:=Nat) (λi=>⟨[(0,mlv (mR l)),(4,.ptr 4 0),(5,.ptr 5 0),(7,iV i)],[(4,.box (rwc r)),(5,.box [zL c.neg,nat c.num,nat c.den])]⟩)
  (λi=>i<=l.length/\M=l.take i++G (l.drop i)) (λi=>l.length-i) 0 ⟨om,by grind⟩ (.le ?_ ?_ rfl) ?_
 {cbv;exact okA};{cbv;exact okA};clear hM;intro i hi;obtain⟨h1,h2⟩:=hi;have hml:=jN l;have wid:=xE xS (mR (l.take i));have wid2:=xE xS (mR l);by_cases hlt:i<l.length
 ·(obtain⟨t,ht⟩:=zS hlt;have hmem:=z3 ht;have hdr:=zY ht;rw[hdr,hpc] at h2;have k1:v7 t.1 r=true->M=l.take (i+1)++G (l.drop (i+1)):=λh=>by grind);have k2:v7 t.1 r=false->t.1=r->M=l.take i++([(r,t.2+q)]++l.drop (i+1)):=λh g=>by grind
  (have k3:v7 t.1 r=false->¬t.1=r->M=l.take i++([(r,q)]++l.drop i):=λh g=>by grind);clear h2
  have cl:=hless t;have ca:=hadd t hmem;obtain⟨Y,hY⟩:=ex (zI t.2);have hmt:=TY ht;rw[hY] at ca hmt;have idx:∀ {K:List PV->Prop},K (mc ⟨t.1,Y⟩)->IdxOk 7 (λ_=>enc mc (mR l)) (λ_=>(i:Int)) K:=λhK=>xQ (l:=mR l) i rfl oM vA xS (λm' hm'=>by grind);generalize v7 t.1 r=lt at *;clear hless hadd hpc hpn;cbv;refine zM 13 (by cbv) ?_;cbv;refine wP (by rw[zA];exact om) ?_;cbv;refine idx ?_;cbv;refine dA cl ?_;cbv;refine zO (λe1=>?_) (λe1=>?_);{have hk:=k1 e1;cbv;exact⟨zD om om,i+1,⟨om,hk⟩,om,.le (by cbv;exact⟨lR,lR,lR,zB om,trivial⟩) (by cbv;exact okA) rfl⟩};have k2':=k2 e1;have k3':=k3 e1;clear k1 k2 k3 cl;cbv;refine⟨vF om om (by rw[zA];exact om),xE xS _,?_⟩;refine bN kK rfl rfl rfl rfl rfl rfl (Y9 xS _ _ _) (z8 oM (by simp[zA,hml];exact om)) rfl ?_;cbv;refine zM 13 (by cbv) ?_;cbv;refine wP (by rw[zA];exact om) ?_;cbv;refine idx ?_;cbv;refine Rk ?_;cbv;refine zF (λe2=>?_) (λe2=>?_);{have hk:=k2' e2;have hX:mR [(r,t.2+q)]=[⟨r,zI (t.2+q)⟩]:=rfl;generalize zI (t.2+q)=X at *;cbv;refine zM 11 (by cbv) ?_;cbv;refine idx ?_;cbv;refine dA ca ?_;cbv;refine wM kK rfl rfl rfl (by simp) rfl ⟨by simp[zW,xT]⟩ (z8 oM (by simp[zW,zA,hml];exact om)) rfl ?_;cbv;refine⟨zD om om,?_⟩;cbv;refine⟨vF (by exact om) (by rw[zA];exact om) (by rw[zA];exact om),xE xS _,?_⟩;refine wM kK rfl rfl rfl (by simp) rfl (Y9 xS _ _ _) (z8 oM (by simp[zW,zA,hml];exact om)) rfl ?_;cbv;refine bD _ (.trans (.le (ps':=⟨[(6,yX 71 7 M.length)],[(71,xF 7 (enc mc (mR M)))]⟩) ?_ ?_ rfl) (.frz 71 rfl rfl ?_ ?_)) rfl ?_;{cbv;exact⟨zT rfl (by rw[hk];simp[zW,zA,hml];exact om),trivial⟩};{cbv;refine⟨zG ?_,trivial⟩;rw[hk,ZU,ZU,<-j6,<-j6,hX];simp[enc,mR,Zu,JD,yU,zW];rfl};{cbv;exact⟨zZ (by simp[zA,jN]),trivial⟩};{exact trivial};{cbv;exact zR (yU (by simp[zA,jN]))}};{have hk:=k3' e2;have hX:mR [(r,q)]=[⟨r,zI q⟩]:=rfl;generalize zI q=X at *;cbv;refine zM 6 (by cbv) ?_;cbv;refine dA cc ?_;cbv;refine wM kK rfl rfl rfl (by simp) rfl ⟨by simp[zW,xT]⟩ (z8 oM (by simp[zW,zA,hml];exact om)) rfl ?_;cbv;refine⟨vF (by exact om) (by rw[zA];exact om) (by rw[zA];exact om),xE xS _,?_⟩;refine wM kK rfl rfl rfl (by simp) rfl (Y9 xS _ _ _) (z8 oM (by simp[zW,zA,hml];exact om)) rfl ?_;cbv;refine bD _ (.trans (.le (ps':=⟨[(6,yX 71 7 M.length)],[(71,xF 7 (enc mc (mR M)))]⟩) ?_ ?_ rfl) (.frz 71 rfl rfl ?_ ?_)) rfl ?_;{cbv;exact⟨zT rfl (by rw[hk];simp[zW,zA,hml];exact om),trivial⟩};{cbv;refine⟨zG ?_,trivial⟩;rw[hk,ZU,ZU,<-j6,<-j6,hX];simp[enc,mR,Zu,JD,yU,zW];rfl};{cbv;exact⟨zZ (by simp[zA,jN]),trivial⟩};{exact trivial};{cbv;exact zR (yU (by simp[zA,jN]))}}
 ·(have hi':i=l.length:=by omega);have hk:M=l.take i++([(r,q)]++l.drop i):=by grind
  have hX:mR [(r,q)]=[⟨r,zI q⟩]:=rfl;generalize zI q=X at *;clear h2 hpn hpc hless hadd;cbv;refine zM 13 (by cbv) ?_;cbv;refine yC (by rw[zA];exact om) ?_;cbv;refine⟨vF om om (by rw[zA];exact om),xE xS _,?_⟩;refine bN kK rfl rfl rfl rfl rfl rfl (Y9 xS _ _ _) (z8 oM (by simp[zA,hml];exact om)) rfl ?_;cbv;refine zM 13 (by cbv) ?_;cbv;refine yC (by rw[zA];exact om) ?_;cbv;refine zM 6 (by cbv) ?_;cbv;refine dA cc ?_;cbv;refine wM kK rfl rfl rfl (by simp) rfl ⟨by simp[zW,xT]⟩ (z8 oM (by simp[zW,zA,hml];exact om)) rfl ?_;cbv;refine⟨vF (by exact om) (by rw[zA];exact om) (by rw[zA];exact om),xE xS _,?_⟩;refine wM kK rfl rfl rfl (by simp) rfl (Y9 xS _ _ _) (z8 oM (by simp[zW,zA,hml];exact om)) rfl ?_;cbv;refine bD _ (.trans (.le (ps':=⟨[(6,yX 71 7 M.length)],[(71,xF 7 (enc mc (mR M)))]⟩) ?_ ?_ rfl) (.frz 71 rfl rfl ?_ ?_)) rfl ?_;{cbv;exact⟨zT rfl (by rw[hk];simp[zW,zA,hml];exact om),trivial⟩};{cbv;refine⟨zG ?_,trivial⟩;rw[hk,ZU,ZU,<-j6,<-j6,hX];simp[enc,mR,Zu,JD,yU,zW];rfl};{cbv;exact⟨zZ (by simp[zA,jN]),trivial⟩};{exact trivial};{cbv;exact zR (yU (by simp[zA,jN]))}
theorem U6 (r:Row)(q:Rat):∀ l,(plM r q l).length<=l.length+1
 |[]=>by simp[plM]| t::rest=>by have:=U6 r q rest;unfold plM;split;{simp;omega};{split <;> simp}
def GA {r:Row}{q:Rat}{k m:Nat}(hq:Fits m q):∀ {l:List (Row×Rat)},(∀ t,t∈l->Fits k t.2)->∀ t,t∈plM r q l->Fits (k+m+1) t.2
 |[],_,t,h=>by
  (have:t=(r,q):=by simpa[plM] using h);rw[this];exact hq.mono oM
 |a::rest,hl,t,h=>by unfold plM at h;split at h;{rcases yG.1 h with rfl|h;{exact (hl _ wI).mono oM};{exact GA hq (λu hu=>hl u (wJ _ hu)) t h}};{split at h;{rcases yG.1 h with rfl|h;{exact (kC (hl a wI) hq).mono oM};{exact (hl t (wJ _ h)).mono oM}};{rcases yG.1 h with rfl|h;{exact hq.mono oM};{exact (hl t h).mono oM}}}
def oT {l:List (Row×Rat)}{r:Row}{q:Rat}{k m:Nat}(hq:Fits m q)(hl:∀ t,t∈l->Fits k t.2):∀ t,t∈plMq l r q->Fits (k+m+1) t.2:=λt h=>by unfold plMq at h;split at h;{exact (hl t h).mono oM};{exact GA hq hl t h}
theorem XM (l:List (Row×Rat))(r:Row)(q:Rat):(plMq l r q).length<=l.length+1:=by unfold plMq;split;{omega};{exact U6 r q l}

def Ui {f:F}{k n:Nat}(h:f.fl k n)(hn:n<2^38):(fA f).sz k:=(h.fit hn).fA
def rZ {b:Bool}{A B:Unit->Prop}(h:b=true)(h1:A ()):Br (λ_=>b) A B:=yB (λ_=>h1) (λg=>by rw[h] at g;cases g)
def dE {b:Bool}{A B:(Exit->PS->Prop)->Prop}{Q:Exit->PS->Prop}(h:b=true)(h1:A Q):Cut (λ_=>b) A B Q:=zO (λ_=>h1) (λg=>by rw[h] at g;cases g)
def WJ {b:Bool}{A B:(Exit->PS->Prop)->Prop}{Q:Exit->PS->Prop}(h:b=false)(h1:B Q):Cut (λ_=>b) A B Q:=zO (λg=>by rw[h] at g;cases g) (λ_=>h1)
theorem UW (a b:Row):v7 a b=true↔(a.k<b.k\/(a.k=b.k/\(a.i<b.i\/(a.i=b.i/\(a.lo<b.lo\/(a.lo=b.lo/\a.hi<b.hi)))))):=by unfold v7;grind
def TI {a:Row}(h:v7 a a=true):False:=by grind [UW]
def Cp {a b c:Row}(h:v7 a b=true)(g:v7 b c=true):v7 a c=true:=by grind [UW]
theorem TH (a b:Row):v7 a b=true\/a=b\/v7 b a=true:=by rw[UW,UW];obtain⟨a1,a2,a3,a4⟩:=a;obtain⟨b1,b2,b3,b4⟩:=b;grind
structure Rs (l:List (Row×Rat)):Prop where
 s:l.Pairwise (λa b=>v7 a.1 b.1=true)
 p:∀ t,t∈l->0<t.2
theorem Rs.nil:Rs []:=⟨.nil,by simp⟩
theorem Rs.tail {t l}(h:Rs (t::l)):Rs l:=⟨(cH.1 h.s).2,λu hu=>h.p u (wJ _ hu)⟩
theorem Rs.lt {t l}(h:Rs (t::l)):∀ u,u∈l->v7 t.1 u.1=true:=(cH.1 h.s).1
theorem Rs.hd {t l}(h:Rs (t::l)):0<t.2:=h.p t wI
theorem Rs.cons {t l}(h:Rs l)(h1:∀ u,u∈l->v7 t.1 u.1=true)(h2:0<t.2):Rs (t::l) :=
 ⟨cH.2 ⟨h1,h.s⟩,λu hu=>by rcases yG.1 hu with rfl|hu <;> first|exact h2|exact h.p u hu⟩
def cor:List (Row×Rat)->Row->Rat
 |[],_=>0| t::r,w=>(if t.1=w then t.2 else 0)+cor r w
def MA (a b:Row):dF a b<0↔v7 a b=true:=by rw[VP,decide_eq_true_eq]
theorem jZ {q:Rat}:0<yA q↔0<q:=by grind [yA]
theorem cL {q:Rat}:yA q<0↔q<0:=by grind [yA]
theorem VG {q:Rat}:yA q=0↔q=0:=by grind [yA]
theorem U5 {r:Row}{q:Rat}:∀ {l:List (Row×Rat)} {u},u∈plM r q l->u.1=r\/∃ t,t∈l/\t.1=u.1
 |[],u,h=>by
  (have:u=(r,q):=by grind [plM]);grind
 |t::rest,u,h=>by
  unfold plM at h;split at h
  ·rcases yG.1 h with rfl|h;{grind}
   ·rcases U5 h with h|⟨v,h1,h2⟩
    all_goals grind
  grind
theorem Ch {r:Row}{q:Rat}(hq:0<q):∀ {l:List (Row×Rat)},Rs l->Rs (plM r q l)
 |[],_=>Rs.nil.cons (by simp) hq| t::rest,h=>by
  unfold plM;split;{rename_i hlt;refine (Ch hq h.tail).cons (λu hu=>?_) h.hd;rcases U5 hu with e|⟨v,h1,h2⟩;{grind};{rw[<-h2];exact h.lt v h1}}
  ·rename_i hlt;split;{rename_i e;have:=h.hd;exact h.tail.cons (λu hu=>by rw[<-e];exact h.lt u hu) (by grind)}
   ·(rename_i e;have hlt':v7 r t.1=true:=by grind [TH]);refine h.cons (λu hu=>?_) hq
    rcases yG.1 hu with rfl|hu;{omega};{exact Cp hlt' (h.lt u hu)}
def Gy {l:List (Row×Rat)}{r:Row}{q:Rat}(h:Rs l)(hq:0<=q):Rs (plMq l r q):=by grind [plMq,VG,Ch]
theorem QJ:∀ {l:List (Row×Rat)} {p:Option Row},Rs l->(∀ w,p=some w->∀ t,t∈l->v7 w t.1=true)->qH p (mR l)=true
 |[],p,_,_=>by cases p <;> rfl
 |t::r,none,h,hp=>by show (decide (0<yA (zI t.2).q)&&((zI t.2).ok&&(true&&qH (some t.1) (mR r))))=true;rw[z6,rS,decide_eq_true (jZ.2 h.hd),QJ h.tail (λw e u hu=>by cases e;exact h.lt u hu)];rfl
 |t::r,some w,h,hp=>by show (decide (0<yA (zI t.2).q)&&((zI t.2).ok&&(decide (dF w t.1<0)&&qH (some t.1) (mR r))))=true;rw[z6,rS,decide_eq_true (jZ.2 h.hd),QJ h.tail (λw e u hu=>by cases e;exact h.lt u hu),decide_eq_true ((MA _ _).2 (hp w rfl t wI))];rfl
abbrev InW (w:World) (b i:Nat):Prop:=b<w.heap.size
def Cs (w:World):List Value->List D->Prop
 |[],[]=>True| v::vs,d::ds=>(RepD w (InW w) v d/\v.oneCell'=true)/\Cs w vs ds| _,_=>False
theorem Cs.app {w}:∀ {a x b y},Cs w a x->Cs w b y->Cs w (a++b) (x++y)
 |[],[],_,_,_,h=>h| _::_,_::_,_,_,h,g=>⟨h.1,Cs.app h.2 g⟩
theorem Cs.len {w}:∀ {a x},Cs w a x->a.length=x.length
 |[],[],_=>rfl| _::_,_::_,h=>by simp[Cs.len h.2]
theorem Cs.get {w}:∀ {a x},Cs w a x->∀ j,j<x.length->RepD w (InW w) (a.getD j undef) (x.getD j .any)/\(a.getD j undef).oneCell'=true
 |[],[],_,j,hj=>absurd hj (by simp)| _::_,_::_,h,0,_=>h.1| _::_,_::_,h,j+1,hj=>by simpa using Cs.get h.2 j (by simpa using hj)
theorem KJ:∀ (a b:List PV),xT (a++b)=xT a++xT b
 |[],_=>rfl| _::a,b=>by simp[xT,KJ a b]
structure ElR (w:World) (t:TypeId) (k:Nat) {α:Type} (G:α->Prop) (p:α->List PV):Prop where
 sz:Tryz.prog.cellsOf t=k
 rd:∀ {H:Type} {enc:TypeId×Value->H} {sp:Nat->Bool} {n:Nat} {cs:List Value} {x:DataW H×List MemPlace},DataW.trod enc Tryz.prog w 0 sp true n t cs=some x->∃ a,G a/\Cs w cs (xT (p a))
theorem ElR.map {w t k}{α β:Type}{G:α->Prop}{p:α->List PV}{G':β->Prop}{p':β->List PV}(h:ElR w t k G p)(f:α->β)(hp:∀ a,G a->xT (p' (f a))=xT (p a))(hG:∀ a,G a->G' (f a)):ElR w t k G' p' :=
 ⟨h.sz,λhx=>by obtain⟨a,h1,h2⟩:=h.rd hx;grind⟩
def Pj {w t}{k:IntKind}(ht:Tryz.prog.underlying t=some (.int k))(hs:Tryz.prog.cellsOf t=1):ElR w t 1 (λn=>(Lit.int k n).wf=true) (λn=>[.int k (λ_=>n)]) :=
 ⟨hs,λ{H enc sp n cs x} hx=>by
  cases n with
  |zero=>simp[DataW.trod] at hx| succ n =>
   (unfold DataW.trod at hx;rw[ht] at hx;split at hx <;> simp_all);obtain⟨⟨rfl,h2⟩,_⟩:=hx
   exact⟨_,h2,⟨.int _ _,rfl⟩,trivial⟩⟩
def Ms {w t}(ht:Tryz.prog.underlying t=some .bool)(hs:Tryz.prog.cellsOf t=1):ElR w t 1 (λ_=>True) (λb=>[zL b]) :=
 ⟨hs,λ{H enc sp n cs x} hx=>by
  cases n with
  |zero=>simp[DataW.trod] at hx| succ n =>
   unfold DataW.trod at hx;rw[ht] at hx;split at hx;{exact⟨_,trivial,⟨.bool _,rfl⟩,trivial⟩}
   all_goals grind⟩
theorem MN {b o n:Nat}:(⟨b,o,none⟩:Addr).add n=⟨b,o+n,none⟩:=by grind [Addr.add]
def G9 {w t e k}{α:Type}{G:α->Prop}{p:α->List PV}(ht:Tryz.prog.underlying t=some (.slice e))(hs:Tryz.prog.cellsOf t=1)(hk:0<k)(he:ElR w e k G p):ElR w t 1 (λl:List α=>(∀ a,a∈l->G a)/\l.length<=maxLen) (λl=>[.sl (λ_=>enc p l)]) :=
 ⟨hs,λ{H enc' sp n cs x} hx=>by
  (rcases Go.Deep.open_slice ht hx with⟨rfl,_⟩|⟨a,len,cap,m,n',D,Pl,rfl,hb,hl,hm,hmm,_,hi⟩;{exact⟨[],⟨λ_ h=>absurd h (by simp),xA _⟩,⟨.sl0 _ _,rfl⟩,trivial⟩};have hlm:len<=m:=by grind);rcases WY len with h0|h0
  {subst h0;exact⟨[],⟨λ_ h=>absurd h (by simp),xA _⟩,⟨.sl0 _ _,rfl⟩,trivial⟩};rw[he.sz] at hi;have key:∀ i,i<len->∃ y:List Value×α,w.cells? 0 (a.add (i*k)) k=some y.1/\G y.2/\Cs w y.1 (xT (p y.2)):=λi hil=>by obtain⟨cs',h1,h2⟩:=hi i oM;obtain⟨y,g1,g2⟩:=he.rd h2;exact⟨(cs',y),h1,g1,g2⟩
  haveI:Inhabited (List Value×α):=⟨Classical.choose (key 0 h0)⟩
  (obtain⟨Y,hY⟩:=Go.Deep.choose_lt key;have hcell:∀ i j,i<len->j<k->w.cell? (a.add (i*k+j))=some ((Y i).1.getD j undef):=λi j hi' hj=>by obtain⟨h1,_,_⟩:=hY i hi';obtain⟨_,h2,h3⟩:=World.cells?_some h1;grind [Go.Deep.add_add]);obtain⟨b,o,sp'⟩:=a;have hsp:sp'=none:=by
   have:=hcell 0 0 h0 hk;unfold World.cell? at this;split at this
   ·cases sp' with
    |none=>rfl| some s=>grind [Addr.add]
   grind
  subst hsp;have hS:b<w.heap.size:=World.cells?_block (a:=⟨b,o,none⟩) (by have:=(hY 0 h0).1;rw[ZA] at this;exact this) hk
  (have hlen:((List.range len).map λi=>(Y i).2).length=len:=by simp);have hel:∀ i,i<len->(enc p ((List.range len).map λi=>(Y i).2)).getD i []=xT (p (Y i).2):=λi hi'=>by simp[Go.Proofs.YtaeaffgjdcigoaaGreat.enc,hi']
  (refine⟨(List.range len).map λi=>(Y i).2,⟨λz hz=>?_,by omega⟩,⟨?_,rfl⟩,trivial⟩;{grind};have hel2:(enc p ((List.range len).map λi=>(Y i).2)).length=len:=by rw[zA,hlen]);have hk':∀ i,i<len->(xT (p (Y i).2)).length=k:=λi hi'=>by obtain⟨h1,_,h3⟩:=hY i hi';obtain⟨_,h2,_⟩:=World.cells?_some h1;rw[<-h3.len];exact h2
  have:=RepD.sl (w:=w) (S:=InW w) (b:=b) (o:=o) (cap:=cap) (s:=k) (els:=enc p ((List.range len).map λi=>(Y i).2)) (λi j=>(Y i).1.getD j undef)
   (λh=>by grind) oM (λ_ _ _ _=>hS)
   (λe' he'=>by obtain⟨z,hz,rfl⟩:=yZ.1 he';grind)
   (λi j hi' hj=>by grind [MN])
   (λi j hi' hj=>by rw[hel2] at hi';exact ((hY i hi').2.2.get j (by grind)).2)
   (λi j hi' hj=>by rw[hel2] at hi';rw[hel i hi'];exact ((hY i hi').2.2.get j (by grind)).1)
  rw[hel2] at this;exact this⟩
theorem ElR.cut {w t k}{α:Type}{G:α->Prop}{p:α->List PV}(h:ElR w t k G p){H:Type}{enc:TypeId×Value->H}{sp:Nat->Bool}{n o:Nat}{cs:List Value}{x:DataW H×List MemPlace} (hx:DataW.trod enc Tryz.prog w 0 sp true n t ((cs.drop o).take (Tryz.prog.cellsOf t))=some x):∃ a,G a/\Cs w ((cs.drop o).take k) (xT (p a)):=by rw[h.sz] at hx;exact h.rd hx
def EM {w t k0 k1 k2}{f0 f1 f2:Field}{α0 α1 α2:Type}{G0:α0->Prop}{p0:α0->List PV}{G1:α1->Prop}{p1:α1->List PV}{G2:α2->Prop}{p2:α2->List PV}(ht:Tryz.prog.underlying t=some (.struct #[f0,f1,f2]))(hs:Tryz.prog.cellsOf t=k0+(k1+k2)) (o0:f0.offset=0) (o1:f1.offset=k0) (o2:f2.offset=k0+k1) (h0:ElR w f0.type k0 G0 p0) (h1:ElR w f1.type k1 G1 p1) (h2:ElR w f2.type k2 G2 p2):ElR w t (k0+(k1+k2)) (λa:α0×α1×α2=>G0 a.1/\G1 a.2.1/\G2 a.2.2) (λa=>p0 a.1++(p1 a.2.1++p2 a.2.2)) :=
 ⟨hs,λ{H enc sp m cs x} hx=>by obtain⟨y0,y1,y2,n,_,hl,g0,g1,g2⟩:=Go.Deep.trod_struct3 ht hx;obtain⟨a0,u0,v0⟩:=h0.cut g0;obtain⟨a1,u1,v1⟩:=h1.cut g1;obtain⟨a2,u2,v2⟩:=h2.cut g2;rw[o0,wZ] at v0;rw[o1] at v1;rw[o2,yU (by grind)] at v2;rw[<-Yg] at v2;have e1:=v1.app v2;rw[JE] at e1;have:=v0.app e1;rw[JE] at this;exact⟨(a0,a1,a2),⟨u0,u1,u2⟩,by grind [KJ]⟩⟩
def NP (w:World):ElR w 4 1 (λ_=>True) (λb=>[zL b]):=Ms Tryz.underlying4 (by kernel_rfl)
def EF (w:World):ElR w 189 1 (λ_=>True) (λx:UInt32=>[.int .u32 (λ_=>(x.toNat:Int))]) :=
 (Pj (k:=.u32) Tryz.underlying189 (by kernel_rfl)).map (λn=>UInt32.ofNat n.toNat) (λn h=>by grind [Lit.wf,IntKind.min,IntKind.max,IntKind.signed,IntKind.bits,UInt32.toNat_ofNat_of_lt']) (λ_ _=>trivial)
def NO (w:World):ElR w 32 1 (λ_=>True) (λl=>[nat l]) :=
 (G9 (k:=1) Tryz.underlying32 (by kernel_rfl) (by decide) (EF w)).map (λl=>l) (λl _=>rfl) (λ_ _=>trivial)
def EG (w:World):ElR w 34 3 (λ_=>True) (λx:R=>[zL x.neg,nat x.num,nat x.den]) :=
 (EM (k0:=1) (k1:=1) (k2:=1) Tryz.underlying34 (by kernel_rfl) rfl rfl rfl (NP w) (NO w) (NO w)).map (λa=>⟨a.1,a.2.1,a.2.2⟩) (λ_ _=>rfl) (λ_ _=>trivial)
end Go.Proofs.YtaeaffgjdcigoaaGreat
namespace Go.Proofs.YtaeaffgjdcigoaaGreat
open Go Go.ChangeShapes Go.WideShapes Go.ChangeAt Go.RowKit
set_option maxRecDepth 100000
def own:ownKnob Tryz.prog.godebug=none:=by kernel_rfl
theorem EJ:Kids Tryz.prog (·<Tryz.prog.types.size):=kids_rows (by kernel_rfl) (by kernel_rfl)
theorem Md:∀ t e,t<Tryz.prog.types.size->Tryz.prog.underlying t=some (.slice e)->0<Tryz.prog.cellsOf e:=slices_full_of _ (by kernel_rfl)
def lZ {H:Type}{enc:TypeId×Value->H}{W W':World}{sp:Nat->Bool}:∀ {ts:List TypeId} {vs:List Value} {ds:List (DataW H)} {ps:List MemPlace},(∀ t∈ts,t<Tryz.prog.types.size) ->DataW.TrodAll enc Tryz.prog W 0 (λ_=>true) true ts vs ds ps->(∀ p∈ps,W.sameAt W' p)->(∀ p∈ps,sp p.block=true)->DataW.TrodAll enc Tryz.prog W' 0 sp true ts vs ds ps
 |[],[],[],_,_,h,_,_=>h| _::_,_::_,_::_,_,hT,⟨p,q,⟨n,h1⟩,h2,e⟩,hs,hb=>by subst e;refine⟨p,q,⟨n,?_⟩,lZ (λt ht=>hT t (wJ _ ht)) h2 (λx hx=>hs x (Av _ hx)) (λx hx=>hb x (Av _ hx)),rfl⟩;grind [DataW.trod_respare,EJ,Md,DataW.trod_carry]
def J4 {W W':World}(hs:W.heap.size<=W'.heap.size)(ho:W'.os=W.os)(hu:W'.output=W.output)(hb:∀ b,b<W.heap.size->W'.heap[b]?=W.heap[b]?)(may:MemPlace->Prop):W.keptBut W' may:=by refine⟨ho,hu,λi hi=>?_⟩;grind
def KS {s:ChangeSpec}{fn:Func}{H:Type}{enc:TypeId×Value->H}{W:World}{args:Array Value}{ds gs:List (DataW H)}{before:List MemPlace}{fresh handsOn again:Bool} (hv:s.vars=[]) (hres:fn.resultTypes=#[4]) (hsp:s.fn H ds={ results:=[.lit (.bool true)],args:=ds }) (hp:∀ t∈fn.params.toList,t<Tryz.prog.types.size)
  (hW:DataW.Whole enc Tryz.prog fn.params.toList s.vars false W args.toList ds gs before)
  {f:FuncId} {pvs:List PV} (hS:zC f pvs (zL true)) (hn:args.size=pvs.length) (hrep:∀ j,j<pvs.length->Rep W (InW W) β0 (args.getD j undef) (pvs.getD j .any)) :
  Calls Tryz.prog f args W λe W'=>∃ v,e=.returned v/\s.post enc Tryz.prog fn false fresh handsOn again W args v W':=by
 have hgo:=hS.go W (InW W) β0 args (λb i h=>h) CU hn hrep;rw[uZ] at hgo;refine hgo.mono λe W' ⟨v,S',β',he,hl,hr,_⟩=>?_;subst he;have hvt:v=.bool true:=by
  cases hr with
  |c hf h=>cases h;rfl
 subst hvt;refine⟨_,rfl,?_⟩;have hsame:∀ b,b<W.heap.size->W'.heap[b]?=W.heap[b]?:=λb hb=>hl.same b hb (λ⟨n,o,h,_⟩=>by simp at h);have hlt:=hW.lt;have hW0:=hW;obtain⟨p,q,hA,hV,rfl,hfz,hnd⟩:=hW;rw[hv] at hV;obtain⟨rfl,rfl⟩:=trodVars_none hV;rw[jV] at hlt hfz hW0;have hat:∀ x∈p,W.sameAt W' x:=λx hx=>by
  have:=hlt x hx;cases x with
  |cell b o=>show W'.cell? _=W.cell? _;unfold World.cell?;rw[hsame b this]| map b=>exact hsame b this
 have hargs:∀ sp:Nat->Bool,(∀ x∈p,sp x.block=true)->DataW.TrodAll enc Tryz.prog W' 0 sp true fn.params.toList args.toList ds p:=λsp h=>lZ hp hA hat h;have hold:∀ x∈p,(λb=>decide (b<W.heap.size)) x.block=true:=λx hx=>by grind
 have hrs:∀ (b:Nat) (sp:Nat->Bool) (hd:Bool),DataW.TrodAll enc Tryz.prog W' b sp hd fn.resultTypes.toList ((Value.bool true).resultList fn.resultTypes.size) [.lit (.bool true)] []:=λb sp hd=>by rw[hres];exact⟨[],[],shut_bool Tryz.underlying4 true,rfl,rfl⟩
 have hfz':W'.noneFrozen p:=λb o h=>by have g:=hfz b o h;have hb:b<W.heap.size:=hlt _ h;grind [World.frozen?]
 refine⟨ds,[],p,[],p,[],hW0,?_,?_,?_,?_,λ_=>⟨?_,ds.cons (.lit (.bool true)),[],p,⟨p,[],?_,?_,by simp,hfz',λh=>by cases h⟩,λx hx _=>hx⟩⟩;{grind};{grind};{rw[jV,hsp,hv];rfl};{exact J4 hl.size hl.os hl.output hsame _};{exact ok_one hres rfl (okWide_bool_mk Tryz.underlying4 _)};{exact trodAll_append (hargs _ (λ_ _=>rfl)) (hrs _ _ _)};{rw[hv];rfl}
end Go.Proofs.YtaeaffgjdcigoaaGreat
namespace Go.Proofs.YtaeaffgjdcigoaaGreat
open Go
def fdN (raw:List UInt8) (n a:Nat):Nat:=match raw[a]? with
 |some b=>b.toNat%n| none=>0
def na (raw:List UInt8) (a:Nat):Nat:=if a<raw.length then a+1 else a
def kP {raw:List UInt8}{n a:Nat}(h:0<n):fdN raw n a<n:=by unfold fdN;split;{exact vK _ h};omega
def dL {raw:List UInt8}{a:Nat}(h:a<=raw.length):na raw a<=raw.length:=by grind [na]
def dnm:Nat->Int
 |0=>1| 1=>1| 2=>2| _=>4
def Fd (k:Nat):1<=dnm k/\dnm k<=4:=by unfold dnm;grind
def fdQ (raw:List UInt8) (a:Nat):Rat×Nat:=(i7 ((fdN raw 9 a:Int)-4) (dnm (fdN raw 4 (na raw a))),na raw (na raw a))
def BA {a b:Int}(h1:a.natAbs<B)(h2:0<b)(h3:b.natAbs<B):Fits 1 (i7 a b):=by obtain⟨d,hd⟩:∃ d:Nat,b=(d:Int):=⟨b.toNat,by omega⟩;subst hd;unfold i7;rw[W8];exact rB (by grind) (by grind) oM
def jR (raw:List UInt8)(a:Nat):Fits 1 (fdQ raw a).1:=by have h1:=kP (raw:=raw) (n:=9) (a:=a) (by decide);obtain⟨h2,h3⟩:=Fd (fdN raw 4 (na raw a));have hB:B=4294967296:=rfl;exact BA oM oM oM
def t8 (raw:List UInt8):Nat->Nat->F->Nat->F×Nat
 |0,_,f,a=>(f,a)| n+1,v,f,a=>if 0<fdN raw 3 a then t8 raw n (v+1) (f.add ((F.var v).scale (fdQ raw (na raw a)).1)) (fdQ raw (na raw a)).2 else t8 raw n (v+1) f (na raw a)
def fdF (raw:List UInt8) (n a:Nat):F×Nat:=t8 raw n 0 (F.num (fdQ raw a).1) (fdQ raw a).2
def Qz (raw:List UInt8):∀ (n v:Nat) (f:F) (a k m:Nat),f.fl k m->(t8 raw n v f a).1.fl (k+6*n) (m+n)
 |0,_,_,_,_,_,h=>h| n+1,v,f,a,k,m,h=>by unfold t8;split;{exact (Qz raw n _ _ _ (k+6) (m+1) ((h.add ((gW _).scale (jR raw _))).mono oM oM)).mono oM oM};{exact (Qz raw n _ _ _ k m h).mono oM oM}
def BJ (raw:List UInt8)(n a:Nat):(fdF raw n a).1.fl (1+6*n) n:=(Qz raw n 0 _ _ 1 0 (u6 (jR raw a))).mono oM oM
def i6 {raw:List UInt8}{a:Nat}(h:a<=raw.length):(fdQ raw a).2<=raw.length:=dL (dL h)
def Qy {raw:List UInt8}:∀ {n v:Nat} {f:F} {a:Nat},a<=raw.length->(t8 raw n v f a).2<=raw.length
 |0,_,_,_,h=>h| n+1,v,f,a,h=>by unfold t8;split;{exact Qy (i6 (dL h))};{exact Qy (dL h)}
def QA {raw:List UInt8}{n a:Nat}(h:a<=raw.length):(fdF raw n a).2<=raw.length:=Qy (i6 h)
def fdL (raw:List UInt8) (d:Nat):Nat->Nat->Nat->List F×Nat
 |0,_,a=>([],a)| n+1,v,a=>((fdF raw v a).1::(fdL raw d n (v+d) (fdF raw v a).2).1,(fdL raw d n (v+d) (fdF raw v a).2).2)
theorem aW (raw:List UInt8)(d:Nat):∀ n v a,(fdL raw d n v a).1.length=n
 |0,_,_=>rfl| n+1,v,a=>by simp only[fdL,rK,aW raw d n]
def Qu {raw:List UInt8}{d:Nat}:∀ {n v a},a<=raw.length->(fdL raw d n v a).2<=raw.length
 |0,_,_,h=>h| n+1,v,a,h=>Qu (n:=n) (QA h)
def Qv {raw:List UInt8}{d:Nat}:∀ {n v a:Nat} {f:F},f∈(fdL raw d n v a).1->f.fl (1+6*(v+d*n)) (v+d*n)
 |0,_,_,f,h=>absurd h (by simp[fdL])| n+1,v,a,f,h=>by simp only[fdL,yG] at h;have e:d*(n+1)=d*n+d:=QZ d n;rcases h with rfl|h;{exact (BJ raw v a).mono oM oM};{exact (Qv h).mono oM oM}
structure FGrp where
 n:Nat
 us:List F
 os:List F
def FGrp.g (x:FGrp):Grp:=⟨x.n,x.us.map fA,x.os.map fA⟩
def fdG (raw:List UInt8) (a:Nat):FGrp×Nat :=
 let n:=1+fdN raw 3 a
 let a1:=na raw a
 let u:=fdN raw 5 a1
 let a2:=na raw a1
 let o:=1+fdN raw 3 a2
 let a3:=na raw a2
 let U:=fdL raw 1 u n a3
 let O:=fdL raw 0 o (n+u) U.2
 (⟨n,U.1,O.1⟩,O.2)
structure FGrp.small (x:FGrp):Prop where
 n1:1<=x.n
 n2:x.n<=3
 us:x.us.length<=4
 o1:1<=x.os.length
 o2:x.os.length<=3
 uf:∀ f,f∈x.us->f.fl 43 7
 of:∀ f,f∈x.os->f.fl 43 7
def Uk (raw:List UInt8)(a:Nat):(fdG raw a).1.small:=by have h1:=kP (raw:=raw) (n:=3) (a:=a) (by decide);have h2:=kP (raw:=raw) (n:=5) (a:=na raw a) (by decide);have h3:=kP (raw:=raw) (n:=3) (a:=na raw (na raw a)) (by decide);refine⟨?_,?_,?_,?_,?_,λf hf=>?_,λf hf=>?_⟩;{show 1<=1+fdN raw 3 a;omega};{show 1+fdN raw 3 a<=3;omega};{show (fdL raw 1 _ _ _).1.length<=4;grind [aW]};{show 1<=(fdL raw 0 _ _ _).1.length;grind [aW]};{show (fdL raw 0 _ _ _).1.length<=3;grind [aW]};{have:=Qv (f:=f) (raw:=raw) (d:=1) hf;exact this.mono oM oM};{have:=Qv (f:=f) (raw:=raw) (d:=0) hf;exact this.mono oM oM}
def BH {raw:List UInt8}{a:Nat}(h:a<=raw.length):(fdG raw a).2<=raw.length:=Qu (Qu (dL (dL (dL h))))
def vI (q:Rat):Rat:=if q<0 then -q else q
def j8 {k:Nat}{q:Rat}(h:Fits k q):Fits k (vI q):=by unfold vI;split;{exact qF h};omega
def fdB (raw:List UInt8):Nat->Nat->List (Rat×Rat)×Nat
 |0,a=>([],a)| n+1,a=>(((fdQ raw a).1,(fdQ raw a).1+vI (fdQ raw (fdQ raw a).2).1)::(fdB raw n (fdQ raw (fdQ raw a).2).2).1,(fdB raw n (fdQ raw (fdQ raw a).2).2).2)
theorem QB (raw:List UInt8):∀ n a,(fdB raw n a).1.length=n
 |0,_=>rfl| n+1,a=>by simp only[fdB,rK,QB raw n]
def BN {raw:List UInt8}:∀ {n a},a<=raw.length->(fdB raw n a).2<=raw.length
 |0,_,h=>h| n+1,a,h=>BN (n:=n) (i6 (i6 h))
def Jg {raw:List UInt8}:∀ {n a:Nat} {x:Rat×Rat},x∈(fdB raw n a).1->Fits 3 x.1/\Fits 3 x.2
 |0,_,x,h=>absurd h (by simp[fdB])| n+1,a,x,h=>by simp only[fdB,yG] at h;rcases h with rfl|h;{exact⟨(jR raw a).mono (by decide),(kC (jR raw a) (j8 (jR raw _))).mono (by decide)⟩};{exact Jg h}
def G7 {raw:List UInt8}:∀ {n a:Nat} {x:Rat×Rat},x∈(fdB raw n a).1->x.1<=x.2
 |0,_,x,h=>absurd h (by simp[fdB])| n+1,a,x,h=>by simp only[fdB,yG] at h;rcases h with rfl|h;{grind [vI]};{exact G7 h}
structure FReg where
 bs:List (Rat×Rat)
 rows:List F
def FReg.g (x:FReg):Reg:=⟨x.bs.map λb=>zI b.1,x.bs.map λb=>zI b.2,x.rows.map fA⟩
def fdR (raw:List UInt8) (n a:Nat):FReg×Nat :=
 let b:=fdB raw n a
 let k:=fdN raw 3 b.2
 let l:=fdL raw 0 k n (na raw b.2)
 (⟨b.1,l.1⟩,l.2)
structure FReg.small (x:FReg) (n:Nat):Prop where
 bs:x.bs.length=n
 bf:∀ b,b∈x.bs->Fits 3 b.1/\Fits 3 b.2
 ord:∀ b,b∈x.bs->b.1<=b.2
 rows:x.rows.length<=2
 rf:∀ f,f∈x.rows->f.fl (1+6*n) n
def F8 (raw:List UInt8)(n a:Nat):(fdR raw n a).1.small n:=by have h1:=kP (raw:=raw) (n:=3) (a:=(fdB raw n a).2) (by decide);refine⟨QB raw n a,λb hb=>Jg hb,λb hb=>G7 hb,?_,λf hf=>?_⟩;{show (fdL raw 0 _ _ _).1.length<=2;grind [aW]};{have:=Qv (f:=f) (raw:=raw) (d:=0) hf;grind}
def BC {raw:List UInt8}{n a:Nat}(h:a<=raw.length):(fdR raw n a).2<=raw.length:=Qu (dL (BN h))
structure FQry where
 g:FGrp
 r:FReg
 goal:F
def FQry.q (x:FQry):Qry:=⟨x.g.g,x.r.g,fA x.goal⟩
def fdY (raw:List UInt8) (a:Nat):FQry×Nat :=
 let g:=fdG raw a
 let r:=fdR raw g.1.n g.2
 let f:=fdF raw (g.1.n+g.1.us.length) r.2
 (⟨g.1,r.1,f.1⟩,f.2)
structure FQry.small (x:FQry):Prop where
 g:x.g.small
 r:x.r.small x.g.n
 goal:x.goal.fl 43 7
def dY (raw:List UInt8)(a:Nat):(fdY raw a).1.small:=by have hg:=Uk raw a;refine⟨hg,F8 raw _ _,?_⟩;have h1:=hg.n2;have h2:=hg.us;show (fdF raw ((fdG raw a).1.n+(fdG raw a).1.us.length) (fdR raw (fdG raw a).1.n (fdG raw a).2).2).1.fl 43 7;exact (BJ raw _ _).mono oM oM
def Mk {raw:List UInt8}{a:Nat}(h:a<=raw.length):(fdY raw a).2<=raw.length:=QA (BC (BH h))
def HF {l:List F}{k n:Nat}(hl:l.length<2^38)(h:∀ f,f∈l->f.fl k n)(hn:n<2^38):Asz k (l.map fA):=⟨by grind,λa ha=>by obtain⟨f,hf,rfl⟩:=yZ.1 ha;exact ((h f hf).fit hn).fA⟩
theorem FQry.small.sz {x:FQry}(h:x.small):x.q.sz 43 where
 g:=⟨HF (by have:=h.g.us;omega) h.g.uf (by decide),HF (by have:=h.g.o2;omega) h.g.of (by decide)⟩
 r:=⟨⟨by show (x.r.bs.map _).length<_;rw[y4,h.r.bs];have:=h.g.n2;omega,λa ha=>by
   obtain⟨b,hb,rfl⟩:=yZ.1 ha;exact zU ((h.r.bf b hb).1.mono (by decide))⟩,⟨by show (x.r.bs.map _).length<_;rw[y4,h.r.bs];have:=h.g.n2;omega,λa ha=>by
   obtain⟨b,hb,rfl⟩:=yZ.1 ha;exact zU ((h.r.bf b hb).2.mono (by decide))⟩,
  HF (by have:=h.r.rows;omega) (λf hf=>(h.r.rf f hf).mono (by have:=h.g.n2;omega) (by have:=h.g.n2;show _<=7;omega)) (by decide)⟩
 goal:=(h.goal.fit (by decide)).fA
def t7 (raw:List UInt8) (q:Qry) (n m:Nat):Nat->List Dec->Nat->List Dec
 |0,p,_=>p| k+1,p,a =>
  let kd:=1+fdN raw 4 a
  let a1:=na raw a
  if kd=3\/kd=4 then t7 raw q n m k (p++[⟨kd,fdN raw n a1,zI (fdQ raw (na raw a1)).1⟩]) (fdQ raw (na raw a1)).2
  else if m=0 then t7 raw q n m k p a1
  else if (⟨q,p,[]⟩:Scp).dcd 1 (fdN raw m a1)=true\/(⟨q,p,[]⟩:Scp).dcd 2 (fdN raw m a1)=true then t7 raw q n m k p (na raw a1)
  else t7 raw q n m k (p++[⟨kd,fdN raw m a1,R0⟩]) (na raw a1)
def fdS (raw:List UInt8):Scp :=
 let y:=fdY raw 0
 ⟨y.1.q,t7 raw y.1.q y.1.g.n y.1.g.us.length (fdN raw 4 y.2) [] (na raw y.2),[]⟩
structure PathOk (n m:Nat) (p:List Dec):Prop where
 d:∀ d,d∈p->(d.k=1\/d.k=2)/\0<=d.i/\d.i<m/\d.x=R0\/(d.k=3\/d.k=4)/\0<=d.i/\d.i<n/\∃ q,Fits 1 q/\d.x=zI q
def Zj {raw:List UInt8}{q:Qry}{n m:Nat}(hn:0<n):∀ {k a:Nat} {p:List Dec},PathOk n m p->PathOk n m (t7 raw q n m k p a)/\(t7 raw q n m k p a).length<=p.length+k
 |0,a,p,h=>⟨h,yD _⟩| k+1,a,p,h=>by
  have h4:=kP (raw:=raw) (n:=4) (a:=a) (by decide);unfold t7;dsimp only;split
  ·rename_i hk;have hi:=kP (raw:=raw) (n:=n) (a:=na raw a) hn;obtain⟨g1,g2⟩:=Zj (raw:=raw) (q:=q) (m:=m) hn (k:=k) (a:=(fdQ raw (na raw (na raw a))).2) (p:=p++[⟨((1+fdN raw 4 a:Nat):Int),fdN raw n (na raw a),zI (fdQ raw (na raw (na raw a))).1⟩]) ⟨λd hd=>by
    rcases uX.1 hd with hd|hd;{exact h.d d hd}
    ·obtain rfl:=kJ.1 hd;exact .inr ⟨by grind,by grind,by grind,_,jR raw _,rfl⟩⟩
   grind
  {rename_i hk;split;{obtain⟨g1,g2⟩:=Zj (raw:=raw) (q:=q) (m:=m) hn (k:=k) (a:=na raw a) h;grind};{rename_i hm;have hi:=kP (raw:=raw) (n:=m) (a:=na raw a) oM;split;{obtain⟨g1,g2⟩:=Zj (raw:=raw) (q:=q) (m:=m) hn (k:=k) (a:=na raw (na raw a)) h;grind};{obtain⟨g1,g2⟩:=Zj (raw:=raw) (q:=q) (m:=m) hn (k:=k) (a:=na raw (na raw a)) (p:=p++[⟨((1+fdN raw 4 a:Nat):Int),fdN raw m (na raw a),R0⟩]) ⟨λd hd=>by rcases uX.1 hd with hd|hd;{exact h.d d hd};grind⟩;grind}}}
def Jf (raw:List UInt8):PathOk (fdY raw 0).1.g.n (fdY raw 0).1.g.us.length (fdS raw).path/\(fdS raw).path.length<=3:=by have h:=(dY raw 0).g.n1;obtain⟨g1,g2⟩:=Zj (raw:=raw) (q:=(fdY raw 0).1.q) (m:=(fdY raw 0).1.g.us.length) (n:=(fdY raw 0).1.g.n) oM (k:=fdN raw 4 (fdY raw 0).2) (a:=na raw (fdY raw 0).2) (p:=[]) ⟨λd hd=>absurd hd (by simp)⟩;grind [fdS,fdN]
def Ml (raw:List UInt8):(fdS raw).sz 43:=by obtain⟨h1,h2⟩:=Jf raw;refine⟨(dY raw 0).sz,⟨by omega,λd hd=>?_⟩,⟨by show 0<2^38;decide,λa ha=>absurd ha (by simp[fdS]),λa ha=>absurd ha (by simp[fdS])⟩⟩;rcases h1.d d hd with⟨_,_,_,h⟩|⟨_,_,_,q,hq,h⟩;{rw[h];exact⟨xA _,xA _⟩};{rw[h];exact zU (hq.mono (by decide))}
end Go.Proofs.YtaeaffgjdcigoaaGreat
