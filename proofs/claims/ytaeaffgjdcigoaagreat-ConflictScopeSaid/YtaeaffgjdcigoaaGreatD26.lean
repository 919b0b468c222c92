/- A part of the proof: RdA, RdB, LwA, LwB, PlD, BrA, BrB, SpA. -/
import Derived.Test.YtaeaffgjdcigoaaGreatD25
import Derived.Test.YtaeaffgjdcigoaaGreatD23
import Derived.Test.YtaeaffgjdcigoaaGreatD21
import Derived.Test.YtaeaffgjdcigoaaGreatRows
import Derived.Deep.Slices
import Derived.Deep.Strs
import Derived.Lib.SmallJoins
import Derived.KernelRfl
import Derived.ProofKit
import Derived.OpenShut
import Derived.ReadAgain
import Derived.ChangeStays
import Derived.Test.YtaeaffgjdcigoaaGreatD20
set_option linter.all false
namespace Go.Proofs.YtaeaffgjdcigoaaGreat
open Go
set_option maxRecDepth 100000
set_option maxHeartbeats 2000000
def vK (a b:Row):Bool:=if a.k=b.k then (if a.i=b.i then (if a.lo=b.lo then decide (a.hi<b.hi) else decide (a.lo<b.lo)) else decide (a.i<b.i)) else decide (a.k<b.k)
theorem Vg (a b:Row):vK a b=decide (sC a b<0):=by unfold vK sC orI cI;rw[s7];split <;> (try split) <;> (try split) <;> simp only[decide_eq_true_eq] <;> (repeat' split) <;> omega
def A7 (a b:Row):zD 173 [rwv a,rwv b] (bV (vK a b)):=by
 refine sF Tryz.f173 ?_;have h1:¬a.k=b.k->vK a b=decide (a.k<b.k):=λh=>if_neg h;have h2:a.k=b.k->¬a.i=b.i->vK a b=decide (a.i<b.i):=λh g=>by unfold vK;grind
 have h3:a.k=b.k->a.i=b.i->¬a.lo=b.lo->vK a b=decide (a.lo<b.lo):=λh g e=>by unfold vK;grind
 have h4:a.k=b.k->a.i=b.i->a.lo=b.lo->vK a b=decide (a.hi<b.hi):=λh g e=>by unfold vK;grind
 generalize vK a b=r at *;cbv;refine zE (λe1=>?_) (λe1=>?_)
 ·cbv;refine zE (λe2=>?_) (λe2=>?_)
  ·cbv;refine zE (λe3=>?_) (λe3=>?_)
   ·have h:=h4 e1 e2 e3;cbv
    (refine rC ?_;cbv)
    exact zX h.symm
   ·have h:=h3 e1 e2 e3;cbv
    (refine rC ?_;cbv)
    exact zX h.symm
  ·have h:=h2 e1 e2;cbv
   (refine rC ?_;cbv)
   exact zX h.symm
 ·have h:=h1 e1;cbv
  (refine rC ?_;cbv)
  exact zX h.symm
def Rl (l:List Mult)(hl:Msz (2^32) l):zD 199 [mlv l] (bV (kC none l)):=by
 refine sF Tryz.f199 ?_;have hll:=hl.len;have hls:=hl.sz;generalize hr:kC none l=r;cbv;refine zW (σ:=Nat×Option Row) (λs=>⟨[(0,mlv l),(3,iV s.1)],[]⟩)
  (λs=>s.1<=l.length/\r=kC s.2 (l.drop s.1)/\(s.1=0->s.2=none)/\(s.1≠0->∃ u,l[s.1-1]?=some u/\s.2=some u.row)) (λs=>l.length-s.1)
  (0,none) ⟨om,hr.symm,λ_=>rfl,λh=>absurd rfl h⟩ (.le ?_ ?_ rfl) ?_
 {cbv;exact okA};{cbv};clear hr;intro s hs;obtain⟨h1,hv,h3,h4⟩:=hs;generalize s.1=i at *
 generalize s.2=p at *;cbv;refine zE (λh5=>?_) (λh5=>?_)
 ·(have hlt:i<l.length:=by rw[zA] at h5;exact om);obtain⟨t,ht⟩:=zQ hlt
  (have idx:∀ {K:List PV->Prop},K (mc t)->IdxOk 7 (λ_=>enc mc l) (λ_=>(i:Int)) K:=λhK=>xM (l:=l) i rfl hlt wM xI (λm' hm'=>by grind);have htz:=hls t (z8 ht);have cs:=s35 t.c (by have:=htz.n;omega);have cv:=GJ t.c htz;have hd:l.drop i=t::l.drop (i+1):=zT ht;have hvn:(¬0<yB t.c.q->r=false):=λh=>by grind [kC]);have hvo:t.c.ok=false->r=false:=λh=>by grind [kC]
  have hv0:0<yB t.c.q->t.c.ok=true->p=none->r=kC (some t.row) (l.drop (i+1)):=λh g e=>by rw[hv,hd,e];show (decide (0<yB t.c.q)&&(t.c.ok&&(true&&kC (some t.row) (l.drop (i+1)))))=_;grind
  (have hv1:∀ w,0<yB t.c.q->t.c.ok=true->p=some w->r=(vK w t.row&&kC (some t.row) (l.drop (i+1))):=λw h g e=>by grind [Vg,kC]);clear hv
  generalize yB t.c.q=sg at *;generalize t.c.ok=ok at *;generalize hrest:kC (some t.row) (l.drop (i+1))=rest at *;cbv;refine zL 35 (by cbv) ?_;cbv;refine idx ?_;cbv;refine dA cv ?_;cbv;refine yA (λe2=>?_) (λe2=>?_)
  rotate_left
  ·cbv
   (refine rC ?_;cbv)
   exact zK (hvo e2)
  cbv;refine idx ?_;cbv;refine dA cs ?_;cbv;refine zO (λe1=>?_) (λe1=>?_)
  ·cbv
   (refine rC ?_;cbv)
   exact zK (hvn oM)
  cbv;refine zO (λe3=>?_) (λe3=>?_)
  ·(cbv;obtain⟨u,hu,hu2⟩:=h4 om;have cc:=A7 u.row t.row;have hvv:=hv1 u.row oM e2 hu2;generalize vK u.row t.row=cr at *;refine⟨zC om om,xM (l:=l) (i-1) om om wM xI (λu' hu'=>?_)⟩;obtain rfl:u'=u:=by grind);cbv
   refine idx ?_;cbv;refine dA cc ?_;cbv;refine zN (λe4=>?_) (λe4=>?_);{rw[e4,yL] at hvv;cbv;exact⟨zC om om,(i+1,some t.row),⟨om,hvv.trans hrest.symm,λh=>absurd h (by simp),λ_=>⟨_,ht,rfl⟩⟩,om,.le (by cbv;exact⟨lR,zB om,trivial⟩) (by cbv) rfl⟩}
   ·cbv
    (refine rC ?_;cbv)
    exact zK (by grind)
  {cbv;have hvv:=hv0 oM e2 (h3 om);exact⟨zC om om,(i+1,some t.row),⟨om,hvv.trans hrest.symm,λh=>absurd h (by simp),λ_=>⟨_,ht,rfl⟩⟩,om,.le (by cbv;exact⟨lR,zB om,trivial⟩) (by cbv) rfl⟩}
 ·(have:i=l.length:=by rw[zA] at h5;exact om);rw[this,x8] at hv
  have hv':r=true:=hv;cbv
  (refine rC ?_;cbv)
  exact yJ hv'
def lD:List Mult->List Mult->Bool
 |[],[]=>true| a::r,b::q=>decide (a.row=b.row)&&(decide (a.c=b.c)&&lD r q)| _,_=>false
def lS:∀ l,lD l l=true
 |[]=>rfl| a::r=>by unfold lD;simp[lS r]
def Vc:∀ {l m:List Mult},l.length≠m.length->lD l m=false
 |[],[],h=>absurd rfl h| a::r,b::q,h=>by unfold lD;rw[Vc (λe=>h (by simp[e]))];simp| [],b::q,_=>rfl| a::r,[],_=>rfl
def Hs (a b:List Mult)(ha:Msz (2^32) a)(hb:Msz (2^32) b):zD 40 [mlv a,mlv b] (bV (lD a b)):=by
 refine sF Tryz.f40 ?_;have hal:=ha.len;have hbl:=hb.len;have has_:=ha.sz;have hbs:=hb.sz;have hne:=λh=>Vc (l:=a) (m:=b) h;have hcons:∀ x r y q,lD (x::r) (y::q)=(decide (x.row=y.row)&&(decide (x.c=y.c)&&lD r q)):=λ_ _ _ _=>rfl;have hnil:lD [] []=true:=rfl;obtain⟨S,hS⟩:=ex lD;rw[hS] at hne hcons hnil ⊢;clear hS ha hb;generalize hr:S a b=r at *;cbv;refine zE (λe0=>?_) (λe0=>?_)
 rotate_left
 ·have hr':=hne (λe=>e0 (by grind [zA]));cbv
  (refine rC ?_;cbv)
  exact zK hr'
 have hlen:a.length=b.length:=by rw[zA,zA] at e0;exact om
 cbv;refine zW (σ:=Nat) (λi=>⟨[(0,mlv a),(1,mlv b),(5,iV i)],[]⟩)
  (λi=>i<=a.length/\r=S (a.drop i) (b.drop i)) (λi=>a.length-i) 0 ⟨om,hr.symm⟩ (.le ?_ ?_ rfl) ?_
 {cbv;exact okA};{cbv};clear hr hne e0;intro i hi;obtain⟨h1,h2⟩:=hi;cbv;refine zE (λh5=>?_) (λh5=>?_)
 ·(have hlt:i<a.length:=by rw[zA] at h5;exact om);obtain⟨x,hx⟩:=zQ hlt
  obtain⟨y,hy⟩:=zQ (l:=b) (i:=i) oM;have idx:∀ {K:List PV->Prop},K (mc x)->IdxOk 7 (λ_=>enc mc a) (λ_=>(i:Int)) K:=λhK=>xM (l:=a) i rfl hlt wM xI (λm' hm'=>by grind);have idy:∀ {K:List PV->Prop},K (mc y)->IdxOk 7 (λ_=>enc mc b) (λ_=>(i:Int)) K:=λhK=>xM (l:=b) i rfl oM wM xI (λm' hm'=>by grind);have cs:=s69 x.c y.c (has_ x (z8 hx)) (hbs y (z8 hy));rw[zT hx,zT hy,hcons] at h2;generalize hrest:S (a.drop (i+1)) (b.drop (i+1))=rest at *;generalize decide (x.c=y.c)=ec at *;clear hcons;cbv;refine zL 25 (by cbv) ?_;cbv;refine idx ?_;cbv;refine idy ?_;cbv;refine DK ?_;cbv;refine yA (λe1=>?_) (λe1=>?_)
  ·(have e1':decide (x.row=y.row)=false:=by grind);rw[e1'] at h2
   cbv
   (refine rC ?_;cbv)
   exact zK h2
  (have e1':decide (x.row=y.row)=true:=by grind);rw[e1',yL] at h2
  cbv;refine idx ?_;cbv;refine idy ?_;cbv;refine dA cs ?_;cbv;refine zN (λe2=>?_) (λe2=>?_);{rw[e2,yL] at h2;cbv;exact⟨zC om om,i+1,⟨om,h2.trans hrest.symm⟩,om,.le (by cbv;exact⟨lR,lR,zB om,trivial⟩) (by cbv) rfl⟩}
  ·cbv
   (refine rC ?_;cbv)
   exact zK (by grind)
 ·(have hi':i=a.length:=by rw[zA] at h5;exact om);rw[hi',x8,hlen,x8,hnil] at h2
  cbv
  (refine rC ?_;cbv)
  exact yJ h2
def plM (r:Row) (q:Rat):List (Row×Rat)->List (Row×Rat)
 |[]=>[(r,q)]| t::rest=>if vK t.1 r=true then t::plM r q rest else if t.1=r then (r,t.2+q)::rest else (r,q)::t::rest
def plMq (l:List (Row×Rat)) (r:Row) (q:Rat):List (Row×Rat):=if yB q=0 then l else plM r q l
def Pn {l:List (Row×Rat)}{i:Nat}{t:Row×Rat}(h:l[i]?=some t):(mR l)[i]?=some ⟨t.1,zI t.2⟩:=by grind [mR]
def As (l:List (Row×Rat))(n:Nat):(mR l).take n=mR (l.take n):=by simp[mR,Z5]
structure Mfit (k:Nat) (l:List (Row×Rat)):Prop where
 len:l.length<2^37
 fit:∀ t,t∈l->Fits k t.2
def Yw {α:Type}{p:α->List PV}{n:Nat}(hn:∀ a,(p a).length=n)(l:List α)(a b:Nat):Wid n (λ_=>((enc p l).take a).drop b):=⟨λe he=>(wD hn l).h e (bB (List.mem_of_mem_drop he))⟩
def Rt (l:List (Row×Rat))(r:Row)(c:R)(hl:Mfit (2^30) l)(hc:c.sz (2^30)):zD 112 [mlv (mR l),rwv r,rv c] (mlv (mR (plMq l r c.q))):=by
 refine sF Tryz.f112 ?_;have cs:=s35 c (by have:=hc.n;omega);have cc:=s47 c (hc.mono (by decide));have hadd:∀ t,t∈l->zD 18 [rv (zI t.2),rv c] (rv (zI (t.2+c.q))):=λt ht=>by have:=s44 (zI t.2) c ((zU (hl.fit t ht)).mono (by decide)) (hc.mono (by decide));rw[z9] at this;omega
 have hll:=hl.len;have d0:yB c.q=0->plMq l r c.q=l:=λh=>if_pos h;have d1:¬yB c.q=0->plMq l r c.q=plM r c.q l:=λh=>if_neg h;have hless:∀ t:Row×Rat,zD 173 [rwv t.1,rwv r] (bV (vK t.1 r)):=λt=>A7 t.1 r;have hpn:plM r c.q []=[(r,c.q)]:=rfl;have hpc:∀ t rest,plM r c.q (t::rest)=if vK t.1 r=true then t::plM r c.q rest else if t.1=r then (r,t.2+c.q)::rest else (r,c.q)::t::rest:=λ_ _=>rfl
 obtain⟨G,hG⟩:=ex (plM r c.q);rw[hG] at d1 hpn hpc;generalize plMq l r c.q=M at *;generalize yB c.q=sg at *;generalize hcq:c.q=q at *;clear hG hl hc hcq;cbv;refine cA cs ?_;cbv;refine zE (λe0=>?_) (λe0=>?_);{have hM:=d0 e0;cbv;subst hM;exact rA};have hM:=d1 e0;clear d0 d1 cs;cbv;refine zW (σ:=Nat) (λi=>⟨[(0,mlv (mR l)),(4,.ptr 4 0),(5,.ptr 5 0),(7,iV i)],[(4,.box (rwc r)),(5,.box [bV c.neg,nat c.num,nat c.den])]⟩)
  (λi=>i<=l.length/\M=l.take i++G (l.drop i)) (λi=>l.length-i) 0 ⟨om,by grind⟩ (.le ?_ ?_ rfl) ?_
 {cbv;exact okA};{cbv;exact okA};clear hM;intro i hi;obtain⟨h1,h2⟩:=hi;have hml:=kT l;have wid:=wD xI (mR (l.take i));have wid2:=wD xI (mR l);by_cases hlt:i<l.length
 ·(obtain⟨t,ht⟩:=zQ hlt;have hmem:=z8 ht;have hdr:=zT ht;rw[hdr,hpc] at h2;have k1:vK t.1 r=true->M=l.take (i+1)++G (l.drop (i+1)):=λh=>by grind);have k2:vK t.1 r=false->t.1=r->M=l.take i++([(r,t.2+q)]++l.drop (i+1)):=λh g=>by grind
  (have k3:vK t.1 r=false->¬t.1=r->M=l.take i++([(r,q)]++l.drop i):=λh g=>by grind);clear h2
  have cl:=hless t;have ca:=hadd t hmem;obtain⟨Y,hY⟩:=ex (zI t.2);have hmt:=Pn ht;rw[hY] at ca hmt;have idx:∀ {K:List PV->Prop},K (mc ⟨t.1,Y⟩)->IdxOk 7 (λ_=>enc mc (mR l)) (λ_=>(i:Int)) K:=λhK=>xM (l:=mR l) i rfl oM wM xI (λm' hm'=>by grind);generalize vK t.1 r=lt at *;clear hless hadd hpc hpn;cbv;refine zL 13 (by cbv) ?_;cbv;refine wP (by rw[zA];exact om) ?_;cbv;refine idx ?_;cbv;refine dA cl ?_;cbv;refine zN (λe1=>?_) (λe1=>?_);{have hk:=k1 e1;cbv;exact⟨zC om om,i+1,⟨om,hk⟩,om,.le (by cbv;exact⟨lR,lR,lR,zB om,trivial⟩) (by cbv;exact okA) rfl⟩};have k2':=k2 e1;have k3':=k3 e1;clear k1 k2 k3 cl;cbv;refine⟨vX om om (by rw[zA];exact om),wD xI _,?_⟩;refine pO qU rfl rfl rfl rfl rfl rfl (Yw xI _ _ _) (z6 oM (by simp[zA,hml];exact om)) rfl ?_;cbv;refine zL 13 (by cbv) ?_;cbv;refine wP (by rw[zA];exact om) ?_;cbv;refine idx ?_;cbv;refine AF ?_;cbv;refine zE (λe2=>?_) (λe2=>?_);{have hk:=k2' e2;have hX:mR [(r,t.2+q)]=[⟨r,zI (t.2+q)⟩]:=rfl;generalize zI (t.2+q)=X at *;cbv;refine zL 11 (by cbv) ?_;cbv;refine idx ?_;cbv;refine dA ca ?_;cbv;refine wE qU rfl rfl rfl (by simp) rfl ⟨by simp[zS,xD]⟩ (z6 oM (by simp[zS,zA,hml];exact om)) rfl ?_;cbv;refine⟨zC om om,?_⟩;cbv;refine⟨vX (by exact om) (by rw[zA];exact om) (by rw[zA];exact om),wD xI _,?_⟩;refine wE qU rfl rfl rfl (by simp) rfl (Yw xI _ _ _) (z6 oM (by simp[zS,zA,hml];exact om)) rfl ?_;cbv;refine aI _ (.trans (.le (ps':=⟨[(6,oV 71 7 M.length)],[(71,aV 7 (enc mc (mR M)))]⟩) ?_ ?_ rfl) (.frz 71 rfl rfl ?_ ?_)) rfl ?_;{cbv;exact⟨z4 rfl (by rw[hk];simp[zS,zA,hml];exact om),trivial⟩};{cbv;refine⟨zG ?_,trivial⟩;rw[hk,Zr,Zr,<-qK,<-qK,hX];simp[enc,mR,Z5,Gl,yW,zS];rfl};{cbv;exact⟨z5 (by simp[zA,kT]),trivial⟩};{exact trivial};{cbv;exact zR (yW (by simp[zA,kT]))}};{have hk:=k3' e2;have hX:mR [(r,q)]=[⟨r,zI q⟩]:=rfl;generalize zI q=X at *;cbv;refine zL 6 (by cbv) ?_;cbv;refine dA cc ?_;cbv;refine wE qU rfl rfl rfl (by simp) rfl ⟨by simp[zS,xD]⟩ (z6 oM (by simp[zS,zA,hml];exact om)) rfl ?_;cbv;refine⟨vX (by exact om) (by rw[zA];exact om) (by rw[zA];exact om),wD xI _,?_⟩;refine wE qU rfl rfl rfl (by simp) rfl (Yw xI _ _ _) (z6 oM (by simp[zS,zA,hml];exact om)) rfl ?_;cbv;refine aI _ (.trans (.le (ps':=⟨[(6,oV 71 7 M.length)],[(71,aV 7 (enc mc (mR M)))]⟩) ?_ ?_ rfl) (.frz 71 rfl rfl ?_ ?_)) rfl ?_;{cbv;exact⟨z4 rfl (by rw[hk];simp[zS,zA,hml];exact om),trivial⟩};{cbv;refine⟨zG ?_,trivial⟩;rw[hk,Zr,Zr,<-qK,<-qK,hX];simp[enc,mR,Z5,Gl,yW,zS];rfl};{cbv;exact⟨z5 (by simp[zA,kT]),trivial⟩};{exact trivial};{cbv;exact zR (yW (by simp[zA,kT]))}}
 ·(have hi':i=l.length:=by omega);have hk:M=l.take i++([(r,q)]++l.drop i):=by grind
  have hX:mR [(r,q)]=[⟨r,zI q⟩]:=rfl;generalize zI q=X at *;clear h2 hpn hpc hless hadd;cbv;refine zL 13 (by cbv) ?_;cbv;refine yD (by rw[zA];exact om) ?_;cbv;refine⟨vX om om (by rw[zA];exact om),wD xI _,?_⟩;refine pO qU rfl rfl rfl rfl rfl rfl (Yw xI _ _ _) (z6 oM (by simp[zA,hml];exact om)) rfl ?_;cbv;refine zL 13 (by cbv) ?_;cbv;refine yD (by rw[zA];exact om) ?_;cbv;refine zL 6 (by cbv) ?_;cbv;refine dA cc ?_;cbv;refine wE qU rfl rfl rfl (by simp) rfl ⟨by simp[zS,xD]⟩ (z6 oM (by simp[zS,zA,hml];exact om)) rfl ?_;cbv;refine⟨vX (by exact om) (by rw[zA];exact om) (by rw[zA];exact om),wD xI _,?_⟩;refine wE qU rfl rfl rfl (by simp) rfl (Yw xI _ _ _) (z6 oM (by simp[zS,zA,hml];exact om)) rfl ?_;cbv;refine aI _ (.trans (.le (ps':=⟨[(6,oV 71 7 M.length)],[(71,aV 7 (enc mc (mR M)))]⟩) ?_ ?_ rfl) (.frz 71 rfl rfl ?_ ?_)) rfl ?_;{cbv;exact⟨z4 rfl (by rw[hk];simp[zS,zA,hml];exact om),trivial⟩};{cbv;refine⟨zG ?_,trivial⟩;rw[hk,Zr,Zr,<-qK,<-qK,hX];simp[enc,mR,Z5,Gl,yW,zS];rfl};{cbv;exact⟨z5 (by simp[zA,kT]),trivial⟩};{exact trivial};{cbv;exact zR (yW (by simp[zA,kT]))}
theorem Ut (r:Row)(q:Rat):∀ l,(plM r q l).length<=l.length+1
 |[]=>by simp[plM]| t::rest=>by have:=Ut r q rest;unfold plM;split;{simp;omega};{split <;> simp}
def HG {r:Row}{q:Rat}{k m:Nat}(hq:Fits m q):∀ {l:List (Row×Rat)},(∀ t,t∈l->Fits k t.2)->∀ t,t∈plM r q l->Fits (k+m+1) t.2
 |[],_,t,h=>by
  (have:t=(r,q):=by simpa[plM] using h);rw[this];exact hq.mono oM
 |a::rest,hl,t,h=>by unfold plM at h;split at h;{rcases yM.1 h with rfl|h;{exact (hl _ wB).mono oM};{exact HG hq (λu hu=>hl u (x9 _ hu)) t h}};{split at h;{rcases yM.1 h with rfl|h;{exact (uX (hl a wB) hq).mono oM};{exact (hl t (x9 _ h)).mono oM}};{rcases yM.1 h with rfl|h;{exact hq.mono oM};{exact (hl t h).mono oM}}}
def eT {l:List (Row×Rat)}{r:Row}{q:Rat}{k m:Nat}(hq:Fits m q)(hl:∀ t,t∈l->Fits k t.2):∀ t,t∈plMq l r q->Fits (k+m+1) t.2:=λt h=>by unfold plMq at h;split at h;{exact (hl t h).mono oM};{exact HG hq hl t h}
theorem Y7 (l:List (Row×Rat))(r:Row)(q:Rat):(plMq l r q).length<=l.length+1:=by unfold plMq;split;{omega};{exact Ut r q l}

def VD {f:F}{k n:Nat}(h:f.fl k n)(hn:n<2^38):(fA f).sz k:=(h.fit hn).fA
def sG {b:Bool}{A B:Unit->Prop}(h:b=true)(h1:A ()):Br (λ_=>b) A B:=yA (λ_=>h1) (λg=>by rw[h] at g;cases g)
def fL {b:Bool}{A B:(Exit->PS->Prop)->Prop}{Q:Exit->PS->Prop}(h:b=true)(h1:A Q):Cut (λ_=>b) A B Q:=zN (λ_=>h1) (λg=>by rw[h] at g;cases g)
def ZC {b:Bool}{A B:(Exit->PS->Prop)->Prop}{Q:Exit->PS->Prop}(h:b=false)(h1:B Q):Cut (λ_=>b) A B Q:=zN (λg=>by rw[h] at g;cases g) (λ_=>h1)
theorem Uj (a b:Row):vK a b=true↔(a.k<b.k\/(a.k=b.k/\(a.i<b.i\/(a.i=b.i/\(a.lo<b.lo\/(a.lo=b.lo/\a.hi<b.hi)))))):=by unfold vK;grind
def R3 {a:Row}(h:vK a a=true):False:=by grind [Uj]
def Dl {a b c:Row}(h:vK a b=true)(g:vK b c=true):vK a c=true:=by grind [Uj]
theorem RZ (a b:Row):vK a b=true\/a=b\/vK b a=true:=by rw[Uj,Uj];obtain⟨a1,a2,a3,a4⟩:=a;obtain⟨b1,b2,b3,b4⟩:=b;grind
structure Rs (l:List (Row×Rat)):Prop where
 s:l.Pairwise (λa b=>vK a.1 b.1=true)
 p:∀ t,t∈l->0<t.2
theorem Rs.nil:Rs []:=⟨.nil,by simp⟩
theorem Rs.tail {t l}(h:Rs (t::l)):Rs l:=⟨(sK.1 h.s).2,λu hu=>h.p u (x9 _ hu)⟩
theorem Rs.lt {t l}(h:Rs (t::l)):∀ u,u∈l->vK t.1 u.1=true:=(sK.1 h.s).1
theorem Rs.hd {t l}(h:Rs (t::l)):0<t.2:=h.p t wB
theorem Rs.cons {t l}(h:Rs l)(h1:∀ u,u∈l->vK t.1 u.1=true)(h2:0<t.2):Rs (t::l) :=
 ⟨sK.2 ⟨h1,h.s⟩,λu hu=>by rcases yM.1 hu with rfl|hu <;> first|exact h2|exact h.p u hu⟩
def cor:List (Row×Rat)->Row->Rat
 |[],_=>0| t::r,w=>(if t.1=w then t.2 else 0)+cor r w
def PP (a b:Row):sC a b<0↔vK a b=true:=by rw[Vg,decide_eq_true_eq]
theorem pU {q:Rat}:0<yB q↔0<q:=by grind [yB]
theorem V7 {q:Rat}:yB q<0↔q<0:=by grind [yB]
theorem W9 {q:Rat}:yB q=0↔q=0:=by grind [yB]
theorem Us {r:Row}{q:Rat}:∀ {l:List (Row×Rat)} {u},u∈plM r q l->u.1=r\/∃ t,t∈l/\t.1=u.1
 |[],u,h=>by
  (have:u=(r,q):=by grind [plM]);grind
 |t::rest,u,h=>by
  unfold plM at h;split at h
  ·rcases yM.1 h with rfl|h;{grind}
   ·rcases Us h with h|⟨v,h1,h2⟩
    all_goals grind
  grind
theorem Df {r:Row}{q:Rat}(hq:0<q):∀ {l:List (Row×Rat)},Rs l->Rs (plM r q l)
 |[],_=>Rs.nil.cons (by simp) hq| t::rest,h=>by
  unfold plM;split;{rename_i hlt;refine (Df hq h.tail).cons (λu hu=>?_) h.hd;rcases Us hu with e|⟨v,h1,h2⟩;{grind};{rw[<-h2];exact h.lt v h1}}
  ·rename_i hlt;split;{rename_i e;have:=h.hd;exact h.tail.cons (λu hu=>by rw[<-e];exact h.lt u hu) (by grind)}
   ·(rename_i e;have hlt':vK r t.1=true:=by grind [RZ]);refine h.cons (λu hu=>?_) hq
    rcases yM.1 hu with rfl|hu;{omega};{exact Dl hlt' (h.lt u hu)}
def Al {l:List (Row×Rat)}{r:Row}{q:Rat}(h:Rs l)(hq:0<=q):Rs (plMq l r q):=by grind [plMq,W9,Df]
theorem U6:∀ {l:List (Row×Rat)} {p:Option Row},Rs l->(∀ w,p=some w->∀ t,t∈l->vK w t.1=true)->kC p (mR l)=true
 |[],p,_,_=>by cases p <;> rfl
 |t::r,none,h,hp=>by show (decide (0<yB (zI t.2).q)&&((zI t.2).ok&&(true&&kC (some t.1) (mR r))))=true;rw[z9,nC,decide_eq_true (pU.2 h.hd),U6 h.tail (λw e u hu=>by cases e;exact h.lt u hu)];rfl
 |t::r,some w,h,hp=>by show (decide (0<yB (zI t.2).q)&&((zI t.2).ok&&(decide (sC w t.1<0)&&kC (some t.1) (mR r))))=true;rw[z9,nC,decide_eq_true (pU.2 h.hd),U6 h.tail (λw e u hu=>by cases e;exact h.lt u hu),decide_eq_true ((PP _ _).2 (hp w rfl t wB))];rfl
abbrev InW (w:World) (b i:Nat):Prop:=b<w.heap.size
def Cs (w:World):List Value->List D->Prop
 |[],[]=>True| v::vs,d::ds=>(RepD w (InW w) v d/\v.oneCell'=true)/\Cs w vs ds| _,_=>False
theorem Cs.app {w}:∀ {a x b y},Cs w a x->Cs w b y->Cs w (a++b) (x++y)
 |[],[],_,_,_,h=>h| _::_,_::_,_,_,h,g=>⟨h.1,Cs.app h.2 g⟩
theorem Cs.len {w}:∀ {a x},Cs w a x->a.length=x.length
 |[],[],_=>rfl| _::_,_::_,h=>by simp[Cs.len h.2]
theorem Cs.get {w}:∀ {a x},Cs w a x->∀ j,j<x.length->RepD w (InW w) (a.getD j undef) (x.getD j .any)/\(a.getD j undef).oneCell'=true
 |[],[],_,j,hj=>absurd hj (by simp)| _::_,_::_,h,0,_=>h.1| _::_,_::_,h,j+1,hj=>by simpa using Cs.get h.2 j (by simpa using hj)
theorem oC:∀ (a b:List PV),xD (a++b)=xD a++xD b
 |[],_=>rfl| _::a,b=>by simp[xD,oC a b]
structure ElR (w:World) (t:TypeId) (k:Nat) {α:Type} (G:α->Prop) (p:α->List PV):Prop where
 sz:Tryz.prog.cellsOf t=k
 rd:∀ {H:Type} {enc:TypeId×Value->H} {sp:Nat->Bool} {n:Nat} {cs:List Value} {x:DataW H×List MemPlace},DataW.trod enc Tryz.prog w 0 sp true n t cs=some x->∃ a,G a/\Cs w cs (xD (p a))
theorem ElR.map {w t k}{α β:Type}{G:α->Prop}{p:α->List PV}{G':β->Prop}{p':β->List PV}(h:ElR w t k G p)(f:α->β)(hp:∀ a,G a->xD (p' (f a))=xD (p a))(hG:∀ a,G a->G' (f a)):ElR w t k G' p' :=
 ⟨h.sz,λhx=>by obtain⟨a,h1,h2⟩:=h.rd hx;grind⟩
def CE {w t}{k:IntKind}(ht:Tryz.prog.underlying t=some (.int k))(hs:Tryz.prog.cellsOf t=1):ElR w t 1 (λn=>(Lit.int k n).wf=true) (λn=>[.int k (λ_=>n)]) :=
 ⟨hs,λ{H enc sp n cs x} hx=>by
  cases n with
  |zero=>simp[DataW.trod] at hx| succ n =>
   (unfold DataW.trod at hx;rw[ht] at hx;split at hx <;> simp_all);obtain⟨⟨rfl,h2⟩,_⟩:=hx
   exact⟨_,h2,⟨.int _ _,rfl⟩,trivial⟩⟩
def PG {w t}(ht:Tryz.prog.underlying t=some .bool)(hs:Tryz.prog.cellsOf t=1):ElR w t 1 (λ_=>True) (λb=>[bV b]) :=
 ⟨hs,λ{H enc sp n cs x} hx=>by
  cases n with
  |zero=>simp[DataW.trod] at hx| succ n =>
   unfold DataW.trod at hx;rw[ht] at hx;split at hx;{exact⟨_,trivial,⟨.bool _,rfl⟩,trivial⟩}
   all_goals grind⟩
theorem P4 {b o n:Nat}:(⟨b,o,none⟩:Addr).add n=⟨b,o+n,none⟩:=by grind [Addr.add]
def oS {w t e k}{α:Type}{G:α->Prop}{p:α->List PV}(ht:Tryz.prog.underlying t=some (.slice e))(hs:Tryz.prog.cellsOf t=1)(hk:0<k)(he:ElR w e k G p):ElR w t 1 (λl:List α=>(∀ a,a∈l->G a)/\l.length<=maxLen) (λl=>[.sl (λ_=>enc p l)]) :=
 ⟨hs,λ{H enc' sp n cs x} hx=>by
  (rcases Go.Deep.open_slice ht hx with⟨rfl,_⟩|⟨a,len,cap,m,n',D,Pl,rfl,hb,hl,hm,hmm,_,hi⟩;{exact⟨[],⟨λ_ h=>absurd h (by simp),yY _⟩,⟨.sl0 _ _,rfl⟩,trivial⟩};have hlm:len<=m:=by grind);rcases Wl len with h0|h0
  {subst h0;exact⟨[],⟨λ_ h=>absurd h (by simp),yY _⟩,⟨.sl0 _ _,rfl⟩,trivial⟩};rw[he.sz] at hi;have key:∀ i,i<len->∃ y:List Value×α,w.cells? 0 (a.add (i*k)) k=some y.1/\G y.2/\Cs w y.1 (xD (p y.2)):=λi hil=>by obtain⟨cs',h1,h2⟩:=hi i oM;obtain⟨y,g1,g2⟩:=he.rd h2;exact⟨(cs',y),h1,g1,g2⟩
  haveI:Inhabited (List Value×α):=⟨Classical.choose (key 0 h0)⟩
  (obtain⟨Y,hY⟩:=Go.Deep.choose_lt key;have hcell:∀ i j,i<len->j<k->w.cell? (a.add (i*k+j))=some ((Y i).1.getD j undef):=λi j hi' hj=>by obtain⟨h1,_,_⟩:=hY i hi';obtain⟨_,h2,h3⟩:=World.cells?_some h1;grind [Go.Deep.add_add]);obtain⟨b,o,sp'⟩:=a;have hsp:sp'=none:=by
   have:=hcell 0 0 h0 hk;unfold World.cell? at this;split at this
   ·cases sp' with
    |none=>rfl| some s=>grind [Addr.add]
   grind
  subst hsp;have hS:b<w.heap.size:=World.cells?_block (a:=⟨b,o,none⟩) (by have:=(hY 0 h0).1;rw[Zd] at this;exact this) hk
  (have hlen:((List.range len).map λi=>(Y i).2).length=len:=by simp);have hel:∀ i,i<len->(enc p ((List.range len).map λi=>(Y i).2)).getD i []=xD (p (Y i).2):=λi hi'=>by simp[Go.Proofs.YtaeaffgjdcigoaaGreat.enc,hi']
  (refine⟨(List.range len).map λi=>(Y i).2,⟨λz hz=>?_,by omega⟩,⟨?_,rfl⟩,trivial⟩;{grind};have hel2:(enc p ((List.range len).map λi=>(Y i).2)).length=len:=by rw[zA,hlen]);have hk':∀ i,i<len->(xD (p (Y i).2)).length=k:=λi hi'=>by obtain⟨h1,_,h3⟩:=hY i hi';obtain⟨_,h2,_⟩:=World.cells?_some h1;rw[<-h3.len];exact h2
  have:=RepD.sl (w:=w) (S:=InW w) (b:=b) (o:=o) (cap:=cap) (s:=k) (els:=enc p ((List.range len).map λi=>(Y i).2)) (λi j=>(Y i).1.getD j undef)
   (λh=>by grind) oM (λ_ _ _ _=>hS)
   (λe' he'=>by obtain⟨z,hz,rfl⟩:=xB.1 he';grind)
   (λi j hi' hj=>by grind [P4])
   (λi j hi' hj=>by rw[hel2] at hi';exact ((hY i hi').2.2.get j (by grind)).2)
   (λi j hi' hj=>by rw[hel2] at hi';rw[hel i hi'];exact ((hY i hi').2.2.get j (by grind)).1)
  rw[hel2] at this;exact this⟩
theorem ElR.cut {w t k}{α:Type}{G:α->Prop}{p:α->List PV}(h:ElR w t k G p){H:Type}{enc:TypeId×Value->H}{sp:Nat->Bool}{n o:Nat}{cs:List Value}{x:DataW H×List MemPlace} (hx:DataW.trod enc Tryz.prog w 0 sp true n t ((cs.drop o).take (Tryz.prog.cellsOf t))=some x):∃ a,G a/\Cs w ((cs.drop o).take k) (xD (p a)):=by rw[h.sz] at hx;exact h.rd hx
def MC {w t k0 k1}{f0 f1:Field}{α0 α1:Type}{G0:α0->Prop}{p0:α0->List PV}{G1:α1->Prop}{p1:α1->List PV}(ht:Tryz.prog.underlying t=some (.struct #[f0,f1]))(hs:Tryz.prog.cellsOf t=k0+k1) (o0:f0.offset=0) (o1:f1.offset=k0) (h0:ElR w f0.type k0 G0 p0) (h1:ElR w f1.type k1 G1 p1):ElR w t (k0+k1) (λa:α0×α1=>G0 a.1/\G1 a.2) (λa=>p0 a.1++p1 a.2) :=
 ⟨hs,λhx=>by obtain⟨y0,y1,n,_,hl,g0,g1⟩:=Go.ChangeShapes.trod_struct2 ht hx;obtain⟨a0,u0,v0⟩:=h0.cut g0;obtain⟨a1,u1,v1⟩:=h1.cut g1;rw[o0,wN] at v0;rw[o1,yW (by grind)] at v1;have:=v0.app v1;rw[o8] at this;exact⟨(a0,a1),⟨u0,u1⟩,by grind [oC]⟩⟩
def Lq {w t k0 k1 k2}{f0 f1 f2:Field}{α0 α1 α2:Type}{G0:α0->Prop}{p0:α0->List PV}{G1:α1->Prop}{p1:α1->List PV}{G2:α2->Prop}{p2:α2->List PV}(ht:Tryz.prog.underlying t=some (.struct #[f0,f1,f2]))(hs:Tryz.prog.cellsOf t=k0+(k1+k2)) (o0:f0.offset=0) (o1:f1.offset=k0) (o2:f2.offset=k0+k1) (h0:ElR w f0.type k0 G0 p0) (h1:ElR w f1.type k1 G1 p1) (h2:ElR w f2.type k2 G2 p2):ElR w t (k0+(k1+k2)) (λa:α0×α1×α2=>G0 a.1/\G1 a.2.1/\G2 a.2.2) (λa=>p0 a.1++(p1 a.2.1++p2 a.2.2)) :=
 ⟨hs,λ{H enc sp m cs x} hx=>by obtain⟨y0,y1,y2,n,_,hl,g0,g1,g2⟩:=Go.Deep.trod_struct3 ht hx;obtain⟨a0,u0,v0⟩:=h0.cut g0;obtain⟨a1,u1,v1⟩:=h1.cut g1;obtain⟨a2,u2,v2⟩:=h2.cut g2;rw[o0,wN] at v0;rw[o1] at v1;rw[o2,yW (by grind)] at v2;rw[<-tH] at v2;have e1:=v1.app v2;rw[o8] at e1;have:=v0.app e1;rw[o8] at this;exact⟨(a0,a1,a2),⟨u0,u1,u2⟩,by grind [oC]⟩⟩
def MB {w t k0 k1 k2 k3}{f0 f1 f2 f3:Field}{α0 α1 α2 α3:Type}{G0:α0->Prop}{p0:α0->List PV}{G1:α1->Prop}{p1:α1->List PV}{G2:α2->Prop}{p2:α2->List PV}{G3:α3->Prop}{p3:α3->List PV}(ht:Tryz.prog.underlying t=some (.struct #[f0,f1,f2,f3]))(hs:Tryz.prog.cellsOf t=k0+(k1+(k2+k3))) (o0:f0.offset=0) (o1:f1.offset=k0) (o2:f2.offset=k0+k1) (o3:f3.offset=k0+k1+k2) (h0:ElR w f0.type k0 G0 p0) (h1:ElR w f1.type k1 G1 p1) (h2:ElR w f2.type k2 G2 p2) (h3:ElR w f3.type k3 G3 p3):ElR w t (k0+(k1+(k2+k3))) (λa:α0×α1×α2×α3=>G0 a.1/\G1 a.2.1/\G2 a.2.2.1/\G3 a.2.2.2) (λa=>p0 a.1++(p1 a.2.1++(p2 a.2.2.1++p3 a.2.2.2))) :=
 ⟨hs,λ{H enc sp m cs x} hx=>by obtain⟨y0,y1,y2,y3,n,_,hl,g0,g1,g2,g3⟩:=Go.Joins.trod_struct4 ht hx;obtain⟨a0,u0,v0⟩:=h0.cut g0;obtain⟨a1,u1,v1⟩:=h1.cut g1;obtain⟨a2,u2,v2⟩:=h2.cut g2;obtain⟨a3,u3,v3⟩:=h3.cut g3;rw[o0,wN] at v0;rw[o1] at v1;rw[o2,<-tH] at v2;rw[o3,yW (by grind),<-tH,<-tH] at v3;have e2:=v2.app v3;rw[o8] at e2;have e1:=v1.app e2;rw[o8] at e1;have:=v0.app e1;rw[o8] at this;exact⟨(a0,a1,a2,a3),⟨u0,u1,u2,u3⟩,by grind [oC]⟩⟩
def GL (w:World):ElR w 3 1 (λn=>(Lit.int .i64 n).wf=true) (λn=>[iV n]):=CE Tryz.underlying3 (by kernel_rfl)
def HB (w:World):ElR w 4 1 (λ_=>True) (λb=>[bV b]):=PG Tryz.underlying4 (by kernel_rfl)
def Lg (w:World):ElR w 189 1 (λ_=>True) (λx:UInt32=>[.int .u32 (λ_=>(x.toNat:Int))]) :=
 (CE (k:=.u32) Tryz.underlying189 (by kernel_rfl)).map (λn=>UInt32.ofNat n.toNat) (λn h=>by grind [Lit.wf,IntKind.min,IntKind.max,IntKind.signed,IntKind.bits,UInt32.toNat_ofNat_of_lt']) (λ_ _=>trivial)
def Me (w:World):ElR w 32 1 (λ_=>True) (λl=>[nat l]) :=
 (oS (k:=1) Tryz.underlying32 (by kernel_rfl) (by decide) (Lg w)).map (λl=>l) (λl _=>rfl) (λ_ _=>trivial)
def Md (w:World):ElR w 34 3 (λ_=>True) (λx:R=>[bV x.neg,nat x.num,nat x.den]) :=
 (Lq (k0:=1) (k1:=1) (k2:=1) Tryz.underlying34 (by kernel_rfl) rfl rfl rfl (HB w) (Me w) (Me w)).map (λa=>⟨a.1,a.2.1,a.2.2⟩) (λ_ _=>rfl) (λ_ _=>trivial)
def Lh (w:World):ElR w 107 4 (λ_=>True) (λr:Row=>[iV r.k,iV r.i,iV r.lo,iV r.hi]) :=
 (MB (k0:=1) (k1:=1) (k2:=1) (k3:=1) Tryz.underlying107 (by kernel_rfl) rfl rfl rfl rfl (GL w) (GL w) (GL w) (GL w)).map (λa=>⟨a.1,a.2.1,a.2.2.1,a.2.2.2⟩) (λ_ _=>rfl) (λ_ _=>trivial)
def Mf (w:World):ElR w 109 7 (λ_=>True) mc :=
 (MC (k0:=4) (k1:=3) Tryz.underlying109 (by kernel_rfl) rfl rfl (Lh w) (Md w)).map (λa=>⟨a.1,a.2⟩) (λ_ _=>rfl) (λ_ _=>trivial)
def R8 (w:World):ElR w 43 1 (λl=>l.length<=maxLen) (λl=>[mlv l]) :=
 (oS (k:=7) Tryz.underlying43 (by kernel_rfl) (by decide) (Mf w)).map (λl=>l) (λ_ _=>rfl) (λ_ h=>h.2)
end Go.Proofs.YtaeaffgjdcigoaaGreat
namespace Go.Proofs.YtaeaffgjdcigoaaGreat
open Go Go.ChangeShapes Go.WideShapes Go.ChangeAt Go.RowKit
set_option maxRecDepth 100000
def own:ownKnob Tryz.prog.godebug=none:=by kernel_rfl
theorem Lm:Kids Tryz.prog (·<Tryz.prog.types.size):=kids_rows (by kernel_rfl) (by kernel_rfl)
theorem Pu:∀ t e,t<Tryz.prog.types.size->Tryz.prog.underlying t=some (.slice e)->0<Tryz.prog.cellsOf e:=slices_full_of _ (by kernel_rfl)
def lC {H:Type}{enc:TypeId×Value->H}{W W':World}{sp:Nat->Bool}:∀ {ts:List TypeId} {vs:List Value} {ds:List (DataW H)} {ps:List MemPlace},(∀ t∈ts,t<Tryz.prog.types.size) ->DataW.TrodAll enc Tryz.prog W 0 (λ_=>true) true ts vs ds ps->(∀ p∈ps,W.sameAt W' p)->(∀ p∈ps,sp p.block=true)->DataW.TrodAll enc Tryz.prog W' 0 sp true ts vs ds ps
 |[],[],[],_,_,h,_,_=>h| _::_,_::_,_::_,_,hT,⟨p,q,⟨n,h1⟩,h2,e⟩,hs,hb=>by subst e;refine⟨p,q,⟨n,?_⟩,lC (λt ht=>hT t (x9 _ ht)) h2 (λx hx=>hs x (C5 _ hx)) (λx hx=>hb x (C5 _ hx)),rfl⟩;grind [DataW.trod_respare,Lm,Pu,DataW.trod_carry]
def Jf {W W':World}(hs:W.heap.size<=W'.heap.size)(ho:W'.os=W.os)(hu:W'.output=W.output)(hb:∀ b,b<W.heap.size->W'.heap[b]?=W.heap[b]?)(may:MemPlace->Prop):W.keptBut W' may:=by refine⟨ho,hu,λi hi=>?_⟩;grind
def Q0 {s:ChangeSpec}{fn:Func}{H:Type}{enc:TypeId×Value->H}{W:World}{args:Array Value}{ds gs:List (DataW H)}{before:List MemPlace}{fresh handsOn again:Bool} (hv:s.vars=[]) (hres:fn.resultTypes=#[4]) (hsp:s.fn H ds={ results:=[.lit (.bool true)],args:=ds }) (hp:∀ t∈fn.params.toList,t<Tryz.prog.types.size)
  (hW:DataW.Whole enc Tryz.prog fn.params.toList s.vars false W args.toList ds gs before)
  {f:FuncId} {pvs:List PV} (hS:zD f pvs (bV true)) (hn:args.size=pvs.length) (hrep:∀ j,j<pvs.length->Rep W (InW W) β0 (args.getD j undef) (pvs.getD j .any)) :
  Calls Tryz.prog f args W λe W'=>∃ v,e=.returned v/\s.post enc Tryz.prog fn false fresh handsOn again W args v W':=by
 have hgo:=hS.go W (InW W) β0 args (λb i h=>h) DJ hn hrep;rw[uQ] at hgo;refine hgo.mono λe W' ⟨v,S',β',he,hl,hr,_⟩=>?_;subst he;have hvt:v=.bool true:=by
  cases hr with
  |c hf h=>cases h;rfl
 subst hvt;refine⟨_,rfl,?_⟩;have hsame:∀ b,b<W.heap.size->W'.heap[b]?=W.heap[b]?:=λb hb=>hl.same b hb (λ⟨n,o,h,_⟩=>by simp at h);have hlt:=hW.lt;have hW0:=hW;obtain⟨p,q,hA,hV,rfl,hfz,hnd⟩:=hW;rw[hv] at hV;obtain⟨rfl,rfl⟩:=trodVars_none hV;rw[kF] at hlt hfz hW0;have hat:∀ x∈p,W.sameAt W' x:=λx hx=>by
  have:=hlt x hx;cases x with
  |cell b o=>show W'.cell? _=W.cell? _;unfold World.cell?;rw[hsame b this]| map b=>exact hsame b this
 have hargs:∀ sp:Nat->Bool,(∀ x∈p,sp x.block=true)->DataW.TrodAll enc Tryz.prog W' 0 sp true fn.params.toList args.toList ds p:=λsp h=>lC hp hA hat h;have hold:∀ x∈p,(λb=>decide (b<W.heap.size)) x.block=true:=λx hx=>by grind
 have hrs:∀ (b:Nat) (sp:Nat->Bool) (hd:Bool),DataW.TrodAll enc Tryz.prog W' b sp hd fn.resultTypes.toList ((Value.bool true).resultList fn.resultTypes.size) [.lit (.bool true)] []:=λb sp hd=>by rw[hres];exact⟨[],[],shut_bool Tryz.underlying4 true,rfl,rfl⟩
 have hfz':W'.noneFrozen p:=λb o h=>by have g:=hfz b o h;have hb:b<W.heap.size:=hlt _ h;grind [World.frozen?]
 refine⟨ds,[],p,[],p,[],hW0,?_,?_,?_,?_,λ_=>⟨?_,ds.cons (.lit (.bool true)),[],p,⟨p,[],?_,?_,by simp,hfz',λh=>by cases h⟩,λx hx _=>hx⟩⟩;{grind};{grind};{rw[kF,hsp,hv];rfl};{exact Jf hl.size hl.os hl.output hsame _};{exact ok_one hres rfl (okWide_bool_mk Tryz.underlying4 _)};{exact trodAll_append (hargs _ (λ_ _=>rfl)) (hrs _ _ _)};{rw[hv];rfl}
end Go.Proofs.YtaeaffgjdcigoaaGreat
namespace Go.Proofs.YtaeaffgjdcigoaaGreat
open Go
def fdN (raw:List UInt8) (n a:Nat):Nat:=match raw[a]? with
 |some b=>b.toNat%n| none=>0
def na (raw:List UInt8) (a:Nat):Nat:=if a<raw.length then a+1 else a
def qZ {raw:List UInt8}{n a:Nat}(h:0<n):fdN raw n a<n:=by unfold fdN;split;{exact v8 _ h};omega
def fW {raw:List UInt8}{a:Nat}(h:a<=raw.length):na raw a<=raw.length:=by grind [na]
def dnm:Nat->Int
 |0=>1| 1=>1| 2=>2| _=>4
def Gc (k:Nat):1<=dnm k/\dnm k<=4:=by unfold dnm;grind
def fdQ (raw:List UInt8) (a:Nat):Rat×Nat:=(iE ((fdN raw 9 a:Int)-4) (dnm (fdN raw 4 (na raw a))),na raw (na raw a))
def Ci {a b:Int}(h1:a.natAbs<B)(h2:0<b)(h3:b.natAbs<B):Fits 1 (iE a b):=by obtain⟨d,hd⟩:∃ d:Nat,b=(d:Int):=⟨b.toNat,by omega⟩;subst hd;unfold iE;rw[Ww];exact aX (by grind) (by grind) oM
def kY (raw:List UInt8)(a:Nat):Fits 1 (fdQ raw a).1:=by have h1:=qZ (raw:=raw) (n:=9) (a:=a) (by decide);obtain⟨h2,h3⟩:=Gc (fdN raw 4 (na raw a));have hB:B=4294967296:=rfl;exact Ci oM oM oM
def tP (raw:List UInt8):Nat->Nat->F->Nat->F×Nat
 |0,_,f,a=>(f,a)| n+1,v,f,a=>if 0<fdN raw 3 a then tP raw n (v+1) (f.add ((F.var v).scale (fdQ raw (na raw a)).1)) (fdQ raw (na raw a)).2 else tP raw n (v+1) f (na raw a)
def fdF (raw:List UInt8) (n a:Nat):F×Nat:=tP raw n 0 (F.num (fdQ raw a).1) (fdQ raw a).2
def UX (raw:List UInt8):∀ (n v:Nat) (f:F) (a k m:Nat),f.fl k m->(tP raw n v f a).1.fl (k+6*n) (m+n)
 |0,_,_,_,_,_,h=>h| n+1,v,f,a,k,m,h=>by unfold tP;split;{exact (UX raw n _ _ _ (k+6) (m+1) ((h.add ((j6 _).scale (kY raw _))).mono oM oM)).mono oM oM};{exact (UX raw n _ _ _ k m h).mono oM oM}
def Cq (raw:List UInt8)(n a:Nat):(fdF raw n a).1.fl (1+6*n) n:=(UX raw n 0 _ _ 1 0 (uR (kY raw a))).mono oM oM
def iD {raw:List UInt8}{a:Nat}(h:a<=raw.length):(fdQ raw a).2<=raw.length:=fW (fW h)
def UW {raw:List UInt8}:∀ {n v:Nat} {f:F} {a:Nat},a<=raw.length->(tP raw n v f a).2<=raw.length
 |0,_,_,_,h=>h| n+1,v,f,a,h=>by unfold tP;split;{exact UW (iD (fW h))};{exact UW (fW h)}
def UY {raw:List UInt8}{n a:Nat}(h:a<=raw.length):(fdF raw n a).2<=raw.length:=UW (iD h)
def fdL (raw:List UInt8) (d:Nat):Nat->Nat->Nat->List F×Nat
 |0,_,a=>([],a)| n+1,v,a=>((fdF raw v a).1::(fdL raw d n (v+d) (fdF raw v a).2).1,(fdL raw d n (v+d) (fdF raw v a).2).2)
theorem bT (raw:List UInt8)(d:Nat):∀ n v a,(fdL raw d n v a).1.length=n
 |0,_,_=>rfl| n+1,v,a=>by simp only[fdL,cX,bT raw d n]
def US {raw:List UInt8}{d:Nat}:∀ {n v a},a<=raw.length->(fdL raw d n v a).2<=raw.length
 |0,_,_,h=>h| n+1,v,a,h=>US (n:=n) (UY h)
def UT {raw:List UInt8}{d:Nat}:∀ {n v a:Nat} {f:F},f∈(fdL raw d n v a).1->f.fl (1+6*(v+d*n)) (v+d*n)
 |0,_,_,f,h=>absurd h (by simp[fdL])| n+1,v,a,f,h=>by simp only[fdL,yM] at h;have e:d*(n+1)=d*n+d:=Nat.mul_succ d n;rcases h with rfl|h;{exact (Cq raw v a).mono oM oM};{exact (UT h).mono oM oM}
structure FGrp where
 n:Nat
 us:List F
 os:List F
def FGrp.g (x:FGrp):Grp:=⟨x.n,x.us.map fA,x.os.map fA⟩
def fdG (raw:List UInt8) (a:Nat):FGrp×Nat :=
 let n:=1+fdN raw 3 a
 let a1:=na raw a
 let u:=fdN raw 5 a1
 let a2:=na raw a1
 let o:=1+fdN raw 3 a2
 let a3:=na raw a2
 let U:=fdL raw 1 u n a3
 let O:=fdL raw 0 o (n+u) U.2
 (⟨n,U.1,O.1⟩,O.2)
structure FGrp.small (x:FGrp):Prop where
 n1:1<=x.n
 n2:x.n<=3
 us:x.us.length<=4
 o1:1<=x.os.length
 o2:x.os.length<=3
 uf:∀ f,f∈x.us->f.fl 43 7
 of:∀ f,f∈x.os->f.fl 43 7
def VH (raw:List UInt8)(a:Nat):(fdG raw a).1.small:=by have h1:=qZ (raw:=raw) (n:=3) (a:=a) (by decide);have h2:=qZ (raw:=raw) (n:=5) (a:=na raw a) (by decide);have h3:=qZ (raw:=raw) (n:=3) (a:=na raw (na raw a)) (by decide);refine⟨?_,?_,?_,?_,?_,λf hf=>?_,λf hf=>?_⟩;{show 1<=1+fdN raw 3 a;omega};{show 1+fdN raw 3 a<=3;omega};{show (fdL raw 1 _ _ _).1.length<=4;grind [bT]};{show 1<=(fdL raw 0 _ _ _).1.length;grind [bT]};{show (fdL raw 0 _ _ _).1.length<=3;grind [bT]};{have:=UT (f:=f) (raw:=raw) (d:=1) hf;exact this.mono oM oM};{have:=UT (f:=f) (raw:=raw) (d:=0) hf;exact this.mono oM oM}
def Co {raw:List UInt8}{a:Nat}(h:a<=raw.length):(fdG raw a).2<=raw.length:=US (US (fW (fW (fW h))))
end Go.Proofs.YtaeaffgjdcigoaaGreat
