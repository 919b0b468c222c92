/- A part of the proof: RdA, RdB, LwA, LwB, PlD, LwC, BrA, BrB, SpA, SpB, SpC, SpD. -/
import Derived.Test.YtboocdbmnfjomaaGreatV25
import Derived.Test.YtboocdbmnfjomaaGreatV23
import Derived.Test.YtboocdbmnfjomaaGreatV21
import Derived.Test.YtboocdbmnfjomaaGreatRows
import Derived.Deep.Slices
import Derived.Deep.Strs
import Derived.Lib.SmallJoins
import Derived.KernelRfl
import Derived.ProofKit
import Derived.OpenShut
import Derived.ReadAgain
import Derived.ChangeStays
import Derived.Test.YtboocdbmnfjomaaGreatV20
set_option linter.all false
namespace Go.Proofs.YtboocdbmnfjomaaGreat
open Go
set_option maxRecDepth 100000
set_option maxHeartbeats 2000000
def fM (a b:Row):Bool:=if a.k=b.k then (if a.i=b.i then (if a.lo=b.lo then decide (a.hi<b.hi) else decide (a.lo<b.lo)) else decide (a.i<b.i)) else decide (a.k<b.k)
theorem Fm (a b:Row):fM a b=decide (bU a b<0):=by unfold fM bU orI cI;rw[rK];split <;> (try split) <;> (try split) <;> simp only[decide_eq_true_eq] <;> (repeat' split) <;> omega
def Rb (a b:Row):zH 224 [rwv a,rwv b] (zM (fM a b)):=by
 refine sF Tryz.f224 ?_;have h1:¬a.k=b.k->fM a b=decide (a.k<b.k):=λh=>if_neg h;have h2:a.k=b.k->¬a.i=b.i->fM a b=decide (a.i<b.i):=λh g=>by unfold fM;grind
 have h3:a.k=b.k->a.i=b.i->¬a.lo=b.lo->fM a b=decide (a.lo<b.lo):=λh g e=>by unfold fM;grind
 have h4:a.k=b.k->a.i=b.i->a.lo=b.lo->fM a b=decide (a.hi<b.hi):=λh g e=>by unfold fM;grind
 generalize fM a b=r at *;cbv;refine zG (λe1=>?_) (λe1=>?_)
 ·cbv;refine zG (λe2=>?_) (λe2=>?_)
  ·cbv;refine zG (λe3=>?_) (λe3=>?_)
   ·have h:=h4 e1 e2 e3;cbv
    (refine rC ?_;cbv)
    exact z4 h.symm
   ·have h:=h3 e1 e2 e3;cbv
    (refine rC ?_;cbv)
    exact z4 h.symm
  ·have h:=h2 e1 e2;cbv
   (refine rC ?_;cbv)
   exact z4 h.symm
 ·have h:=h1 e1;cbv
  (refine rC ?_;cbv)
  exact z4 h.symm
def Pz (l:List Mult)(hl:Msz (2^32) l):zH 183 [mlv l] (zM (tK none l)):=by
 refine sF Tryz.f183 ?_;have hll:=hl.len;have hls:=hl.sz;generalize hr:tK none l=r;cbv;refine zY (σ:=Nat×Option Row) (λs=>⟨[(0,mlv l),(3,iV s.1)],[]⟩)
  (λs=>s.1<=l.length/\r=tK s.2 (l.drop s.1)/\(s.1=0->s.2=none)/\(s.1≠0->∃ u,l[s.1-1]?=some u/\s.2=some u.row)) (λs=>l.length-s.1)
  (0,none) ⟨om,hr.symm,λ_=>rfl,λh=>absurd rfl h⟩ (.le ?_ ?_ rfl) ?_
 {cbv;exact okA};{cbv};clear hr;intro s hs;obtain⟨h1,hv,h3,h4⟩:=hs;generalize s.1=i at *
 generalize s.2=p at *;cbv;refine zG (λh5=>?_) (λh5=>?_)
 ·(have hlt:i<l.length:=by rw[zB] at h5;exact om);obtain⟨t,ht⟩:=yB hlt
  (have idx:∀ {K:List PV->Prop},K (mc t)->IdxOk 7 (λ_=>enc mc l) (λ_=>(i:Int)) K:=λhK=>wB (l:=l) i rfl hlt w5 x6 (λm' hm'=>by grind);have htz:=hls t (yE ht);have cs:=s35 t.c (by have:=htz.n;omega);have cv:=Fk t.c htz;have hd:l.drop i=t::l.drop (i+1):=yJ ht;have hvn:(¬0<yG t.c.q->r=false):=λh=>by grind [tK]);have hvo:t.c.ok=false->r=false:=λh=>by grind [tK]
  have hv0:0<yG t.c.q->t.c.ok=true->p=none->r=tK (some t.row) (l.drop (i+1)):=λh g e=>by rw[hv,hd,e];show (decide (0<yG t.c.q)&&(t.c.ok&&(true&&tK (some t.row) (l.drop (i+1)))))=_;grind
  (have hv1:∀ w,0<yG t.c.q->t.c.ok=true->p=some w->r=(fM w t.row&&tK (some t.row) (l.drop (i+1))):=λw h g e=>by grind [Fm,tK]);clear hv
  generalize yG t.c.q=sg at *;generalize t.c.ok=ok at *;generalize hrest:tK (some t.row) (l.drop (i+1))=rest at *;cbv;refine zP 35 (by cbv) ?_;cbv;refine idx ?_;cbv;refine dA cv ?_;cbv;refine yI (λe2=>?_) (λe2=>?_)
  rotate_left
  ·cbv
   (refine rC ?_;cbv)
   exact zO (hvo e2)
  cbv;refine idx ?_;cbv;refine dA cs ?_;cbv;refine zX (λe1=>?_) (λe1=>?_)
  ·cbv
   (refine rC ?_;cbv)
   exact zO (hvn oM)
  cbv;refine zX (λe3=>?_) (λe3=>?_)
  ·(cbv;obtain⟨u,hu,hu2⟩:=h4 om;have cc:=Rb u.row t.row;have hvv:=hv1 u.row oM e2 hu2;generalize fM u.row t.row=cr at *;refine⟨zE om om,wB (l:=l) (i-1) om om w5 x6 (λu' hu'=>?_)⟩;obtain rfl:u'=u:=by grind);cbv
   refine idx ?_;cbv;refine dA cc ?_;cbv;refine zZ (λe4=>?_) (λe4=>?_);{rw[e4,xQ] at hvv;cbv;exact⟨zE om om,(i+1,some t.row),⟨om,hvv.trans hrest.symm,λh=>absurd h (by simp),λ_=>⟨_,ht,rfl⟩⟩,om,.le (by cbv;exact⟨lR,zF om,trivial⟩) (by cbv) rfl⟩}
   ·cbv
    (refine rC ?_;cbv)
    exact zO (by grind)
  {cbv;have hvv:=hv0 oM e2 (h3 om);exact⟨zE om om,(i+1,some t.row),⟨om,hvv.trans hrest.symm,λh=>absurd h (by simp),λ_=>⟨_,ht,rfl⟩⟩,om,.le (by cbv;exact⟨lR,zF om,trivial⟩) (by cbv) rfl⟩}
 ·(have:i=l.length:=by rw[zB] at h5;exact om);rw[this,vE] at hv
  have hv':r=true:=hv;cbv
  (refine rC ?_;cbv)
  exact yN hv'
def plM (r:Row) (q:Rat):List (Row×Rat)->List (Row×Rat)
 |[]=>[(r,q)]| t::rest=>if fM t.1 r=true then t::plM r q rest else if t.1=r then (r,t.2+q)::rest else (r,q)::t::rest
def plMq (l:List (Row×Rat)) (r:Row) (q:Rat):List (Row×Rat):=if yG q=0 then l else plM r q l
def Tc {l:List (Row×Rat)}{i:Nat}{t:Row×Rat}(h:l[i]?=some t):(mR l)[i]?=some ⟨t.1,zK t.2⟩:=by grind [mR]
def St (l:List (Row×Rat))(n:Nat):(mR l).take n=mR (l.take n):=by simp[mR,l7]
structure Mfit (k:Nat) (l:List (Row×Rat)):Prop where
 len:l.length<2^37
 fit:∀ t,t∈l->Fits k t.2
def Y0 {α:Type}{p:α->List PV}{n:Nat}(hn:∀ a,(p a).length=n)(l:List α)(a b:Nat):Wid n (λ_=>((enc p l).take a).drop b):=⟨λe he=>(wD hn l).h e (nC (Jw he))⟩
def NK (l:List (Row×Rat))(r:Row)(c:R)(hl:Mfit (2^30) l)(hc:c.sz (2^30)):zH 182 [mlv (mR l),rwv r,rv c] (mlv (mR (plMq l r c.q))):=by
 refine sF Tryz.f182 ?_;have cs:=s35 c (by have:=hc.n;omega);have cc:=s47 c (hc.mono (by decide));have hadd:∀ t,t∈l->zH 51 [rv (zK t.2),rv c] (rv (zK (t.2+c.q))):=λt ht=>by have:=s44 (zK t.2) c ((z5 (hl.fit t ht)).mono (by decide)) (hc.mono (by decide));rw[yD] at this;omega
 have hll:=hl.len;have d0:yG c.q=0->plMq l r c.q=l:=λh=>if_pos h;have d1:¬yG c.q=0->plMq l r c.q=plM r c.q l:=λh=>if_neg h;have hless:∀ t:Row×Rat,zH 224 [rwv t.1,rwv r] (zM (fM t.1 r)):=λt=>Rb t.1 r;have hpn:plM r c.q []=[(r,c.q)]:=rfl;have hpc:∀ t rest,plM r c.q (t::rest)=if fM t.1 r=true then t::plM r c.q rest else if t.1=r then (r,t.2+c.q)::rest else (r,c.q)::t::rest:=λ_ _=>rfl
 obtain⟨G,hG⟩:=ex (plM r c.q);rw[hG] at d1 hpn hpc;generalize plMq l r c.q=M at *;generalize yG c.q=sg at *;generalize hcq:c.q=q at *;clear hG hl hc hcq;cbv;refine cA cs ?_;cbv;refine zG (λe0=>?_) (λe0=>?_);{have hM:=d0 e0;cbv;subst hM;exact rA};have hM:=d1 e0;clear d0 d1 cs;cbv;refine zY (σ:=Nat) (λi=>⟨[(0,mlv (mR l)),(4,.ptr 4 0),(5,.ptr 5 0),(7,iV i)],[(4,.box (rwc r)),(5,.box [zM c.neg,nat c.num,nat c.den])]⟩)
  (λi=>i<=l.length/\M=l.take i++G (l.drop i)) (λi=>l.length-i) 0 ⟨om,by grind⟩ (.le ?_ ?_ rfl) ?_
 {cbv;exact okA};{cbv;exact okA};clear hM;intro i hi;obtain⟨h1,h2⟩:=hi;have hml:=qL l;have wid:=wD x6 (mR (l.take i));have wid2:=wD x6 (mR l);by_cases hlt:i<l.length
 ·(obtain⟨t,ht⟩:=yB hlt;have hmem:=yE ht;have hdr:=yJ ht;rw[hdr,hpc] at h2;have k1:fM t.1 r=true->M=l.take (i+1)++G (l.drop (i+1)):=λh=>by grind);have k2:fM t.1 r=false->t.1=r->M=l.take i++([(r,t.2+q)]++l.drop (i+1)):=λh g=>by grind
  (have k3:fM t.1 r=false->¬t.1=r->M=l.take i++([(r,q)]++l.drop i):=λh g=>by grind);clear h2
  have cl:=hless t;have ca:=hadd t hmem;obtain⟨Y,hY⟩:=ex (zK t.2);have hmt:=Tc ht;rw[hY] at ca hmt;have idx:∀ {K:List PV->Prop},K (mc ⟨t.1,Y⟩)->IdxOk 7 (λ_=>enc mc (mR l)) (λ_=>(i:Int)) K:=λhK=>wB (l:=mR l) i rfl oM w5 x6 (λm' hm'=>by grind);generalize fM t.1 r=lt at *;clear hless hadd hpc hpn;cbv;refine zP 13 (by cbv) ?_;cbv;refine wU (by rw[zB];exact om) ?_;cbv;refine idx ?_;cbv;refine dA cl ?_;cbv;refine zZ (λe1=>?_) (λe1=>?_);{have hk:=k1 e1;cbv;exact⟨zE om om,i+1,⟨om,hk⟩,om,.le (by cbv;exact⟨lR,lR,lR,zF om,trivial⟩) (by cbv;exact okA) rfl⟩};have k2':=k2 e1;have k3':=k3 e1;clear k1 k2 k3 cl;cbv;refine⟨qY om om (by rw[zB];exact om),wD x6 _,?_⟩;refine WP dE rfl rfl rfl rfl rfl rfl (Y0 x6 _ _ _) (zV oM (by simp[zB,hml];exact om)) rfl ?_;cbv;refine zP 13 (by cbv) ?_;cbv;refine wU (by rw[zB];exact om) ?_;cbv;refine idx ?_;cbv;refine Qj ?_;cbv;refine zG (λe2=>?_) (λe2=>?_);{have hk:=k2' e2;have hX:mR [(r,t.2+q)]=[⟨r,zK (t.2+q)⟩]:=rfl;generalize zK (t.2+q)=X at *;cbv;refine zP 11 (by cbv) ?_;cbv;refine idx ?_;cbv;refine dA ca ?_;cbv;refine xT dE rfl rfl rfl (by simp) rfl ⟨by simp[zI,y7]⟩ (zV oM (by simp[zI,zB,hml];exact om)) rfl ?_;cbv;refine⟨zE om om,?_⟩;cbv;refine⟨qY (by exact om) (by rw[zB];exact om) (by rw[zB];exact om),wD x6 _,?_⟩;refine xT dE rfl rfl rfl (by simp) rfl (Y0 x6 _ _ _) (zV oM (by simp[zI,zB,hml];exact om)) rfl ?_;cbv;refine bW _ (.trans (.le (ps':=⟨[(6,zT 71 7 M.length)],[(71,zW 7 (enc mc (mR M)))]⟩) ?_ ?_ rfl) (.frz 71 rfl rfl ?_ ?_)) rfl ?_;{cbv;exact⟨zR rfl (by rw[hk];simp[zI,zB,hml];exact om),trivial⟩};{cbv;refine⟨zC ?_,trivial⟩;rw[hk,mS,mS,<-z3,<-z3,hX];simp[enc,mR,l7,Zg,yU,zI];rfl};{cbv;exact⟨z6 (by simp[zB,qL]),trivial⟩};{exact trivial};{cbv;exact zU (yU (by simp[zB,qL]))}};{have hk:=k3' e2;have hX:mR [(r,q)]=[⟨r,zK q⟩]:=rfl;generalize zK q=X at *;cbv;refine zP 6 (by cbv) ?_;cbv;refine dA cc ?_;cbv;refine xT dE rfl rfl rfl (by simp) rfl ⟨by simp[zI,y7]⟩ (zV oM (by simp[zI,zB,hml];exact om)) rfl ?_;cbv;refine⟨qY (by exact om) (by rw[zB];exact om) (by rw[zB];exact om),wD x6 _,?_⟩;refine xT dE rfl rfl rfl (by simp) rfl (Y0 x6 _ _ _) (zV oM (by simp[zI,zB,hml];exact om)) rfl ?_;cbv;refine bW _ (.trans (.le (ps':=⟨[(6,zT 71 7 M.length)],[(71,zW 7 (enc mc (mR M)))]⟩) ?_ ?_ rfl) (.frz 71 rfl rfl ?_ ?_)) rfl ?_;{cbv;exact⟨zR rfl (by rw[hk];simp[zI,zB,hml];exact om),trivial⟩};{cbv;refine⟨zC ?_,trivial⟩;rw[hk,mS,mS,<-z3,<-z3,hX];simp[enc,mR,l7,Zg,yU,zI];rfl};{cbv;exact⟨z6 (by simp[zB,qL]),trivial⟩};{exact trivial};{cbv;exact zU (yU (by simp[zB,qL]))}}
 ·(have hi':i=l.length:=by omega);have hk:M=l.take i++([(r,q)]++l.drop i):=by grind
  have hX:mR [(r,q)]=[⟨r,zK q⟩]:=rfl;generalize zK q=X at *;clear h2 hpn hpc hless hadd;cbv;refine zP 13 (by cbv) ?_;cbv;refine yF (by rw[zB];exact om) ?_;cbv;refine⟨qY om om (by rw[zB];exact om),wD x6 _,?_⟩;refine WP dE rfl rfl rfl rfl rfl rfl (Y0 x6 _ _ _) (zV oM (by simp[zB,hml];exact om)) rfl ?_;cbv;refine zP 13 (by cbv) ?_;cbv;refine yF (by rw[zB];exact om) ?_;cbv;refine zP 6 (by cbv) ?_;cbv;refine dA cc ?_;cbv;refine xT dE rfl rfl rfl (by simp) rfl ⟨by simp[zI,y7]⟩ (zV oM (by simp[zI,zB,hml];exact om)) rfl ?_;cbv;refine⟨qY (by exact om) (by rw[zB];exact om) (by rw[zB];exact om),wD x6 _,?_⟩;refine xT dE rfl rfl rfl (by simp) rfl (Y0 x6 _ _ _) (zV oM (by simp[zI,zB,hml];exact om)) rfl ?_;cbv;refine bW _ (.trans (.le (ps':=⟨[(6,zT 71 7 M.length)],[(71,zW 7 (enc mc (mR M)))]⟩) ?_ ?_ rfl) (.frz 71 rfl rfl ?_ ?_)) rfl ?_;{cbv;exact⟨zR rfl (by rw[hk];simp[zI,zB,hml];exact om),trivial⟩};{cbv;refine⟨zC ?_,trivial⟩;rw[hk,mS,mS,<-z3,<-z3,hX];simp[enc,mR,l7,Zg,yU,zI];rfl};{cbv;exact⟨z6 (by simp[zB,qL]),trivial⟩};{exact trivial};{cbv;exact zU (yU (by simp[zB,qL]))}
theorem UN (r:Row)(q:Rat):∀ l,(plM r q l).length<=l.length+1
 |[]=>by simp[plM]| t::rest=>by have:=UN r q rest;unfold plM;split;{simp;omega};{split <;> simp}
def H8 {r:Row}{q:Rat}{k m:Nat}(hq:Fits m q):∀ {l:List (Row×Rat)},(∀ t,t∈l->Fits k t.2)->∀ t,t∈plM r q l->Fits (k+m+1) t.2
 |[],_,t,h=>by
  (have:t=(r,q):=by simpa[plM] using h);rw[this];exact hq.mono oM
 |a::rest,hl,t,h=>by unfold plM at h;split at h;{rcases yS.1 h with rfl|h;{exact (hl _ vH).mono oM};{exact H8 hq (λu hu=>hl u (w6 _ hu)) t h}};{split at h;{rcases yS.1 h with rfl|h;{exact (qE (hl a vH) hq).mono oM};{exact (hl t (w6 _ h)).mono oM}};{rcases yS.1 h with rfl|h;{exact hq.mono oM};{exact (hl t h).mono oM}}}
def Cu {l:List (Row×Rat)}{r:Row}{q:Rat}{k m:Nat}(hq:Fits m q)(hl:∀ t,t∈l->Fits k t.2):∀ t,t∈plMq l r q->Fits (k+m+1) t.2:=λt h=>by unfold plMq at h;split at h;{exact (hl t h).mono oM};{exact H8 hq hl t h}
def Ct (l:List (Row×Rat))(r:Row)(q:Rat):(plMq l r q).length<=l.length+1:=by unfold plMq;split;{omega};{exact UN r q l}

def Gv {f:F}{k n:Nat}(h:f.fl k n)(hn:n<2^38):(fA f).sz k:=(h.fit hn).fA
def GF {b:Bool}{A B:Unit->Prop}(h:b=true)(h1:A ()):Br (λ_=>b) A B:=yI (λ_=>h1) (λg=>by rw[h] at g;cases g)
def tD {b:Bool}{A B:(Exit->PS->Prop)->Prop}{Q:Exit->PS->Prop}(h:b=true)(h1:A Q):Cut (λ_=>b) A B Q:=zZ (λ_=>h1) (λg=>by rw[h] at g;cases g)
def m0 {b:Bool}{A B:(Exit->PS->Prop)->Prop}{Q:Exit->PS->Prop}(h:b=false)(h1:B Q):Cut (λ_=>b) A B Q:=zZ (λg=>by rw[h] at g;cases g) (λ_=>h1)
def cor:List (Row×Rat)->Row->Rat
 |[],_=>0| t::r,w=>(if t.1=w then t.2 else 0)+cor r w

abbrev InW (w:World) (b i:Nat):Prop:=b<w.heap.size
def Cs (w:World):List Value->List D->Prop
 |[],[]=>True| v::vs,d::ds=>(RepD w (InW w) v d/\v.oneCell'=true)/\Cs w vs ds| _,_=>False
theorem Cs.app {w}:∀ {a x b y},Cs w a x->Cs w b y->Cs w (a++b) (x++y)
 |[],[],_,_,_,h=>h| _::_,_::_,_,_,h,g=>⟨h.1,Cs.app h.2 g⟩
theorem Cs.len {w}:∀ {a x},Cs w a x->a.length=x.length
 |[],[],_=>rfl| _::_,_::_,h=>by simp[Cs.len h.2]
theorem Cs.get {w}:∀ {a x},Cs w a x->∀ j,j<x.length->RepD w (InW w) (a.getD j undef) (x.getD j .any)/\(a.getD j undef).oneCell'=true
 |[],[],_,j,hj=>absurd hj (by simp)| _::_,_::_,h,0,_=>h.1| _::_,_::_,h,j+1,hj=>by simpa using Cs.get h.2 j (by simpa using hj)
def XU:∀ (a b:List PV),y7 (a++b)=y7 a++y7 b
 |[],_=>rfl| _::a,b=>by simp[y7,XU a b]
structure ElR (w:World) (t:TypeId) (k:Nat) {α:Type} (G:α->Prop) (p:α->List PV):Prop where
 sz:Tryz.prog.cellsOf t=k
 rd:∀ {H:Type} {enc:TypeId×Value->H} {sp:Nat->Bool} {n:Nat} {cs:List Value} {x:DataW H×List MemPlace},DataW.trod enc Tryz.prog w 0 sp true n t cs=some x->∃ a,G a/\Cs w cs (y7 (p a))
theorem ElR.map {w t k}{α β:Type}{G:α->Prop}{p:α->List PV}{G':β->Prop}{p':β->List PV}(h:ElR w t k G p)(f:α->β)(hp:∀ a,G a->y7 (p' (f a))=y7 (p a))(hG:∀ a,G a->G' (f a)):ElR w t k G' p' :=
 ⟨h.sz,λhx=>by obtain⟨a,h1,h2⟩:=h.rd hx;grind⟩
def Rm {w t}{k:IntKind}(ht:Tryz.prog.underlying t=some (.int k))(hs:Tryz.prog.cellsOf t=1):ElR w t 1 (λn=>(Lit.int k n).wf=true) (λn=>[.int k (λ_=>n)]) :=
 ⟨hs,λ{H enc sp n cs x} hx=>by
  cases n with
  |zero=>simp[DataW.trod] at hx| succ n =>
   (unfold DataW.trod at hx;rw[ht] at hx;split at hx <;> simp_all);obtain⟨⟨rfl,h2⟩,_⟩:=hx
   exact⟨_,h2,⟨.int _ _,rfl⟩,trivial⟩⟩
def Tz {w t}(ht:Tryz.prog.underlying t=some .bool)(hs:Tryz.prog.cellsOf t=1):ElR w t 1 (λ_=>True) (λb=>[zM b]) :=
 ⟨hs,λ{H enc sp n cs x} hx=>by
  cases n with
  |zero=>simp[DataW.trod] at hx| succ n =>
   unfold DataW.trod at hx;rw[ht] at hx;split at hx;{exact⟨_,trivial,⟨.bool _,rfl⟩,trivial⟩}
   all_goals grind⟩
def T9 {b o n:Nat}:(⟨b,o,none⟩:Addr).add n=⟨b,o+n,none⟩:=by grind [Addr.add]
def Rf (w:World):ElR w 4 1 (λ_=>True) (λb=>[zM b]):=Tz Tryz.underlying4 (by kernel_rfl)
def N7 (w:World):ElR w 196 1 (λ_=>True) (λx:UInt32=>[.int .u32 (λ_=>(x.toNat:Int))]) :=
 (Rm (k:=.u32) Tryz.underlying196 (by kernel_rfl)).map (λn=>UInt32.ofNat n.toNat) (λn h=>by grind [Lit.wf,IntKind.min,IntKind.max,IntKind.signed,IntKind.bits,UInt32.toNat_ofNat_of_lt']) (λ_ _=>trivial)
end Go.Proofs.YtboocdbmnfjomaaGreat
namespace Go.Proofs.YtboocdbmnfjomaaGreat
open Go Go.ChangeShapes Go.WideShapes Go.ChangeAt Go.RowKit
set_option maxRecDepth 100000
def own:ownKnob Tryz.prog.godebug=none:=by kernel_rfl
theorem La:Kids Tryz.prog (·<Tryz.prog.types.size):=kids_rows (by kernel_rfl) (by kernel_rfl)
theorem Tm:∀ t e,t<Tryz.prog.types.size->Tryz.prog.underlying t=some (.slice e)->0<Tryz.prog.cellsOf e:=slices_full_of _ (by kernel_rfl)
def lM {H:Type}{enc:TypeId×Value->H}{W W':World}{sp:Nat->Bool}:∀ {ts:List TypeId} {vs:List Value} {ds:List (DataW H)} {ps:List MemPlace},(∀ t∈ts,t<Tryz.prog.types.size) ->DataW.TrodAll enc Tryz.prog W 0 (λ_=>true) true ts vs ds ps->(∀ p∈ps,W.sameAt W' p)->(∀ p∈ps,sp p.block=true)->DataW.TrodAll enc Tryz.prog W' 0 sp true ts vs ds ps
 |[],[],[],_,_,h,_,_=>h| _::_,_::_,_::_,_,hT,⟨p,q,⟨n,h1⟩,h2,e⟩,hs,hb=>by subst e;refine⟨p,q,⟨n,?_⟩,lM (λt ht=>hT t (w6 _ ht)) h2 (λx hx=>hs x (nA _ hx)) (λx hx=>hb x (nA _ hx)),rfl⟩;grind [DataW.trod_respare,La,Tm,DataW.trod_carry]
def JS {W W':World}(hs:W.heap.size<=W'.heap.size)(ho:W'.os=W.os)(hu:W'.output=W.output)(hb:∀ b,b<W.heap.size->W'.heap[b]?=W.heap[b]?)(may:MemPlace->Prop):W.keptBut W' may:=by refine⟨ho,hu,λi hi=>?_⟩;grind
def CS {s:ChangeSpec}{fn:Func}{H:Type}{enc:TypeId×Value->H}{W:World}{args:Array Value}{ds gs:List (DataW H)}{before:List MemPlace}{fresh handsOn again:Bool} (hv:s.vars=[]) (hres:fn.resultTypes=#[4]) (hsp:s.fn H ds={ results:=[.lit (.bool true)],args:=ds }) (hp:∀ t∈fn.params.toList,t<Tryz.prog.types.size)
  (hW:DataW.Whole enc Tryz.prog fn.params.toList s.vars false W args.toList ds gs before)
  {f:FuncId} {pvs:List PV} (hS:zH f pvs (zM true)) (hn:args.size=pvs.length) (hrep:∀ j,j<pvs.length->Rep W (InW W) β0 (args.getD j undef) (pvs.getD j .any)) :
  Calls Tryz.prog f args W λe W'=>∃ v,e=.returned v/\s.post enc Tryz.prog fn false fresh handsOn again W args v W':=by
 have hgo:=hS.go W (InW W) β0 args (λb i h=>h) CD hn hrep;rw[vI] at hgo;refine hgo.mono λe W' ⟨v,S',β',he,hl,hr,_⟩=>?_;subst he;have hvt:v=.bool true:=by
  cases hr with
  |c hf h=>cases h;rfl
 subst hvt;refine⟨_,rfl,?_⟩;have hsame:∀ b,b<W.heap.size->W'.heap[b]?=W.heap[b]?:=λb hb=>hl.same b hb (λ⟨n,o,h,_⟩=>by simp at h);have hlt:=hW.lt;have hW0:=hW;obtain⟨p,q,hA,hV,rfl,hfz,hnd⟩:=hW;rw[hv] at hV;obtain⟨rfl,rfl⟩:=trodVars_none hV;rw[vM] at hlt hfz hW0;have hat:∀ x∈p,W.sameAt W' x:=λx hx=>by
  have:=hlt x hx;cases x with
  |cell b o=>show W'.cell? _=W.cell? _;unfold World.cell?;rw[hsame b this]| map b=>exact hsame b this
 have hargs:∀ sp:Nat->Bool,(∀ x∈p,sp x.block=true)->DataW.TrodAll enc Tryz.prog W' 0 sp true fn.params.toList args.toList ds p:=λsp h=>lM hp hA hat h;have hold:∀ x∈p,(λb=>decide (b<W.heap.size)) x.block=true:=λx hx=>by grind
 have hrs:∀ (b:Nat) (sp:Nat->Bool) (hd:Bool),DataW.TrodAll enc Tryz.prog W' b sp hd fn.resultTypes.toList ((Value.bool true).resultList fn.resultTypes.size) [.lit (.bool true)] []:=λb sp hd=>by rw[hres];exact⟨[],[],shut_bool Tryz.underlying4 true,rfl,rfl⟩
 have hfz':W'.noneFrozen p:=λb o h=>by have g:=hfz b o h;have hb:b<W.heap.size:=hlt _ h;grind [World.frozen?]
 refine⟨ds,[],p,[],p,[],hW0,?_,?_,?_,?_,λ_=>⟨?_,ds.cons (.lit (.bool true)),[],p,⟨p,[],?_,?_,by simp,hfz',λh=>by cases h⟩,λx hx _=>hx⟩⟩;{grind};{grind};{rw[vM,hsp,hv];rfl};{exact JS hl.size hl.os hl.output hsame _};{exact ok_one hres rfl (okWide_bool_mk Tryz.underlying4 _)};{exact trodAll_append (hargs _ (λ_ _=>rfl)) (hrs _ _ _)};{rw[hv];rfl}
end Go.Proofs.YtboocdbmnfjomaaGreat
namespace Go.Proofs.YtboocdbmnfjomaaGreat
open Go
def fdN (raw:List UInt8) (n a:Nat):Nat:=match raw[a]? with
 |some b=>b.toNat%n| none=>0
def na (raw:List UInt8) (a:Nat):Nat:=if a<raw.length then a+1 else a
def j9 {raw:List UInt8}{n a:Nat}(h:0<n):fdN raw n a<n:=by unfold fdN;split;{exact uQ _ h};omega
def dZ {raw:List UInt8}{a:Nat}(h:a<=raw.length):na raw a<=raw.length:=by grind [na]
def dnm:Nat->Int
 |0=>1| 1=>1| 2=>2| _=>4
def Gz (k:Nat):1<=dnm k/\dnm k<=4:=by unfold dnm;grind
def fdQ (raw:List UInt8) (a:Nat):Rat×Nat:=(ZO ((fdN raw 9 a:Int)-4) (dnm (fdN raw 4 (na raw a))),na raw (na raw a))
def Bi {a b:Int}(h1:a.natAbs<B)(h2:0<b)(h3:b.natAbs<B):Fits 1 (ZO a b):=by obtain⟨d,hd⟩:∃ d:Nat,b=(d:Int):=⟨b.toNat,by omega⟩;subst hd;unfold ZO;rw[nE];exact tA (by grind) (by grind) oM
def jQ (raw:List UInt8)(a:Nat):Fits 1 (fdQ raw a).1:=by have h1:=j9 (raw:=raw) (n:=9) (a:=a) (by decide);obtain⟨h2,h3⟩:=Gz (fdN raw 4 (na raw a));have hB:B=4294967296:=rfl;exact Bi oM oM oM
def iU (raw:List UInt8):Nat->Nat->F->Nat->F×Nat
 |0,_,f,a=>(f,a)| n+1,v,f,a=>if 0<fdN raw 3 a then iU raw n (v+1) (f.add ((F.var v).scale (fdQ raw (na raw a)).1)) (fdQ raw (na raw a)).2 else iU raw n (v+1) f (na raw a)
def fdF (raw:List UInt8) (n a:Nat):F×Nat:=iU raw n 0 (F.num (fdQ raw a).1) (fdQ raw a).2
def Qf (raw:List UInt8):∀ (n v:Nat) (f:F) (a k m:Nat),f.fl k m->(iU raw n v f a).1.fl (k+6*n) (m+n)
 |0,_,_,_,_,_,h=>h| n+1,v,f,a,k,m,h=>by unfold iU;split;{exact (Qf raw n _ _ _ (k+6) (m+1) ((h.add ((gR _).scale (jQ raw _))).mono oM oM)).mono oM oM};{exact (Qf raw n _ _ _ k m h).mono oM oM}
def Bq (raw:List UInt8)(n a:Nat):(fdF raw n a).1.fl (1+6*n) n:=(Qf raw n 0 _ _ 1 0 (j6 (jQ raw a))).mono oM oM
def iT {raw:List UInt8}{a:Nat}(h:a<=raw.length):(fdQ raw a).2<=raw.length:=dZ (dZ h)
def Qe {raw:List UInt8}:∀ {n v:Nat} {f:F} {a:Nat},a<=raw.length->(iU raw n v f a).2<=raw.length
 |0,_,_,_,h=>h| n+1,v,f,a,h=>by unfold iU;split;{exact Qe (iT (dZ h))};{exact Qe (dZ h)}
def Qg {raw:List UInt8}{n a:Nat}(h:a<=raw.length):(fdF raw n a).2<=raw.length:=Qe (iT h)
def fdL (raw:List UInt8) (d:Nat):Nat->Nat->Nat->List F×Nat
 |0,_,a=>([],a)| n+1,v,a=>((fdF raw v a).1::(fdL raw d n (v+d) (fdF raw v a).2).1,(fdL raw d n (v+d) (fdF raw v a).2).2)
theorem aL (raw:List UInt8)(d:Nat):∀ n v a,(fdL raw d n v a).1.length=n
 |0,_,_=>rfl| n+1,v,a=>by simp only[fdL,fH,aL raw d n]
def Qb {raw:List UInt8}{d:Nat}:∀ {n v a},a<=raw.length->(fdL raw d n v a).2<=raw.length
 |0,_,_,h=>h| n+1,v,a,h=>Qb (n:=n) (Qg h)
def Qc {raw:List UInt8}{d:Nat}:∀ {n v a:Nat} {f:F},f∈(fdL raw d n v a).1->f.fl (1+6*(v+d*n)) (v+d*n)
 |0,_,_,f,h=>absurd h (by simp[fdL])| n+1,v,a,f,h=>by simp only[fdL,yS] at h;have e:d*(n+1)=d*n+d:=Z1 d n;rcases h with rfl|h;{exact (Bq raw v a).mono oM oM};{exact (Qc h).mono oM oM}
structure FGrp where
 n:Nat
 us:List F
 os:List F
def FGrp.g (x:FGrp):Grp:=⟨x.n,x.us.map fA,x.os.map fA⟩
def fdG (raw:List UInt8) (a:Nat):FGrp×Nat :=
 let n:=1+fdN raw 3 a
 let a1:=na raw a
 let u:=fdN raw 5 a1
 let a2:=na raw a1
 let o:=1+fdN raw 3 a2
 let a3:=na raw a2
 let U:=fdL raw 1 u n a3
 let O:=fdL raw 0 o (n+u) U.2
 (⟨n,U.1,O.1⟩,O.2)
structure FGrp.small (x:FGrp):Prop where
 n1:1<=x.n
 n2:x.n<=3
 us:x.us.length<=4
 o1:1<=x.os.length
 o2:x.os.length<=3
 uf:∀ f,f∈x.us->f.fl 43 7
 of:∀ f,f∈x.os->f.fl 43 7
def Ua (raw:List UInt8)(a:Nat):(fdG raw a).1.small:=by have h1:=j9 (raw:=raw) (n:=3) (a:=a) (by decide);have h2:=j9 (raw:=raw) (n:=5) (a:=na raw a) (by decide);have h3:=j9 (raw:=raw) (n:=3) (a:=na raw (na raw a)) (by decide);refine⟨?_,?_,?_,?_,?_,λf hf=>?_,λf hf=>?_⟩;{show 1<=1+fdN raw 3 a;omega};{show 1+fdN raw 3 a<=3;omega};{show (fdL raw 1 _ _ _).1.length<=4;grind [aL]};{show 1<=(fdL raw 0 _ _ _).1.length;grind [aL]};{show (fdL raw 0 _ _ _).1.length<=3;grind [aL]};{have:=Qc (f:=f) (raw:=raw) (d:=1) hf;exact this.mono oM oM};{have:=Qc (f:=f) (raw:=raw) (d:=0) hf;exact this.mono oM oM}
def Bo {raw:List UInt8}{a:Nat}(h:a<=raw.length):(fdG raw a).2<=raw.length:=Qb (Qb (dZ (dZ (dZ h))))
def aO (q:Rat):Rat:=if q<0 then -q else q
def lF {k:Nat}{q:Rat}(h:Fits k q):Fits k (aO q):=by unfold aO;split;{exact bM h};omega
def fdB (raw:List UInt8):Nat->Nat->List (Rat×Rat)×Nat
 |0,a=>([],a)| n+1,a=>(((fdQ raw a).1,(fdQ raw a).1+aO (fdQ raw (fdQ raw a).2).1)::(fdB raw n (fdQ raw (fdQ raw a).2).2).1,(fdB raw n (fdQ raw (fdQ raw a).2).2).2)
theorem Qh (raw:List UInt8):∀ n a,(fdB raw n a).1.length=n
 |0,_=>rfl| n+1,a=>by simp only[fdB,fH,Qh raw n]
def Bt {raw:List UInt8}:∀ {n a},a<=raw.length->(fdB raw n a).2<=raw.length
 |0,_,h=>h| n+1,a,h=>Bt (n:=n) (iT (iT h))
def K3 {raw:List UInt8}:∀ {n a:Nat} {x:Rat×Rat},x∈(fdB raw n a).1->Fits 3 x.1/\Fits 3 x.2
 |0,_,x,h=>absurd h (by simp[fdB])| n+1,a,x,h=>by simp only[fdB,yS] at h;rcases h with rfl|h;{exact⟨(jQ raw a).mono (by decide),(qE (jQ raw a) (lF (jQ raw _))).mono (by decide)⟩};{exact K3 h}
def Gw {raw:List UInt8}:∀ {n a:Nat} {x:Rat×Rat},x∈(fdB raw n a).1->x.1<=x.2
 |0,_,x,h=>absurd h (by simp[fdB])| n+1,a,x,h=>by simp only[fdB,yS] at h;rcases h with rfl|h;{grind [aO]};{exact Gw h}
structure FReg where
 bs:List (Rat×Rat)
 rows:List F
def FReg.g (x:FReg):Reg:=⟨x.bs.map λb=>zK b.1,x.bs.map λb=>zK b.2,x.rows.map fA⟩
def fdR (raw:List UInt8) (n a:Nat):FReg×Nat :=
 let b:=fdB raw n a
 let k:=fdN raw 3 b.2
 let l:=fdL raw 0 k n (na raw b.2)
 (⟨b.1,l.1⟩,l.2)
structure FReg.small (x:FReg) (n:Nat):Prop where
 bs:x.bs.length=n
 bf:∀ b,b∈x.bs->Fits 3 b.1/\Fits 3 b.2
 ord:∀ b,b∈x.bs->b.1<=b.2
 rows:x.rows.length<=2
 rf:∀ f,f∈x.rows->f.fl (1+6*n) n
def FI (raw:List UInt8)(n a:Nat):(fdR raw n a).1.small n:=by have h1:=j9 (raw:=raw) (n:=3) (a:=(fdB raw n a).2) (by decide);refine⟨Qh raw n a,λb hb=>K3 hb,λb hb=>Gw hb,?_,λf hf=>?_⟩;{show (fdL raw 0 _ _ _).1.length<=2;grind [aL]};{have:=Qc (f:=f) (raw:=raw) (d:=0) hf;grind}
def Bn {raw:List UInt8}{n a:Nat}(h:a<=raw.length):(fdR raw n a).2<=raw.length:=Qb (dZ (Bt h))
structure FQry where
 g:FGrp
 r:FReg
 goal:F
def FQry.q (x:FQry):Qry:=⟨x.g.g,x.r.g,fA x.goal⟩
def fdY (raw:List UInt8) (a:Nat):FQry×Nat :=
 let g:=fdG raw a
 let r:=fdR raw g.1.n g.2
 let f:=fdF raw (g.1.n+g.1.us.length) r.2
 (⟨g.1,r.1,f.1⟩,f.2)
structure FQry.small (x:FQry):Prop where
 g:x.g.small
 r:x.r.small x.g.n
 goal:x.goal.fl 43 7
def j1 (raw:List UInt8)(a:Nat):(fdY raw a).1.small:=by have hg:=Ua raw a;refine⟨hg,FI raw _ _,?_⟩;have h1:=hg.n2;have h2:=hg.us;show (fdF raw ((fdG raw a).1.n+(fdG raw a).1.us.length) (fdR raw (fdG raw a).1.n (fdG raw a).2).2).1.fl 43 7;exact (Bq raw _ _).mono oM oM
def Ts {raw:List UInt8}{a:Nat}(h:a<=raw.length):(fdY raw a).2<=raw.length:=Qg (Bn (Bo h))
def Hl {l:List F}{k n:Nat}(hl:l.length<2^38)(h:∀ f,f∈l->f.fl k n)(hn:n<2^38):Asz k (l.map fA):=⟨by grind,λa ha=>by obtain⟨f,hf,rfl⟩:=y9.1 ha;exact ((h f hf).fit hn).fA⟩
theorem FQry.small.sz {x:FQry}(h:x.small):x.q.sz 43 where
 g:=⟨Hl (by have:=h.g.us;omega) h.g.uf (by decide),Hl (by have:=h.g.o2;omega) h.g.of (by decide)⟩
 r:=⟨⟨by show (x.r.bs.map _).length<_;rw[yH,h.r.bs];have:=h.g.n2;omega,λa ha=>by
   obtain⟨b,hb,rfl⟩:=y9.1 ha;exact z5 ((h.r.bf b hb).1.mono (by decide))⟩,⟨by show (x.r.bs.map _).length<_;rw[yH,h.r.bs];have:=h.g.n2;omega,λa ha=>by
   obtain⟨b,hb,rfl⟩:=y9.1 ha;exact z5 ((h.r.bf b hb).2.mono (by decide))⟩,
  Hl (by have:=h.r.rows;omega) (λf hf=>(h.r.rf f hf).mono (by have:=h.g.n2;omega) (by have:=h.g.n2;show _<=7;omega)) (by decide)⟩
 goal:=(h.goal.fit (by decide)).fA
def lG (raw:List UInt8) (q:Qry) (n m:Nat):Nat->List Dec->Nat->List Dec
 |0,p,_=>p| k+1,p,a =>
  let kd:=1+fdN raw 4 a
  let a1:=na raw a
  if kd=3\/kd=4 then lG raw q n m k (p++[⟨kd,fdN raw n a1,zK (fdQ raw (na raw a1)).1⟩]) (fdQ raw (na raw a1)).2
  else if m=0 then lG raw q n m k p a1
  else if (⟨q,p,[]⟩:Scp).dcd 1 (fdN raw m a1)=true\/(⟨q,p,[]⟩:Scp).dcd 2 (fdN raw m a1)=true then lG raw q n m k p (na raw a1)
  else lG raw q n m k (p++[⟨kd,fdN raw m a1,R0⟩]) (na raw a1)
def fdS (raw:List UInt8):Scp :=
 let y:=fdY raw 0
 ⟨y.1.q,lG raw y.1.q y.1.g.n y.1.g.us.length (fdN raw 4 y.2) [] (na raw y.2),[]⟩
structure PathOk (n m:Nat) (p:List Dec):Prop where
 d:∀ d,d∈p->(d.k=1\/d.k=2)/\0<=d.i/\d.i<m/\d.x=R0\/(d.k=3\/d.k=4)/\0<=d.i/\d.i<n/\∃ q,Fits 1 q/\d.x=zK q
def oY {raw:List UInt8}{q:Qry}{n m:Nat}(hn:0<n):∀ {k a:Nat} {p:List Dec},PathOk n m p->PathOk n m (lG raw q n m k p a)/\(lG raw q n m k p a).length<=p.length+k
 |0,a,p,h=>⟨h,yQ _⟩| k+1,a,p,h=>by
  have h4:=j9 (raw:=raw) (n:=4) (a:=a) (by decide);unfold lG;dsimp only;split
  ·rename_i hk;have hi:=j9 (raw:=raw) (n:=n) (a:=na raw a) hn;obtain⟨g1,g2⟩:=oY (raw:=raw) (q:=q) (m:=m) hn (k:=k) (a:=(fdQ raw (na raw (na raw a))).2) (p:=p++[⟨((1+fdN raw 4 a:Nat):Int),fdN raw n (na raw a),zK (fdQ raw (na raw (na raw a))).1⟩]) ⟨λd hd=>by
    rcases wZ.1 hd with hd|hd;{exact h.d d hd}
    ·obtain rfl:=fZ.1 hd;exact .inr ⟨by grind,by grind,by grind,_,jQ raw _,rfl⟩⟩
   grind
  {rename_i hk;split;{obtain⟨g1,g2⟩:=oY (raw:=raw) (q:=q) (m:=m) hn (k:=k) (a:=na raw a) h;grind};{rename_i hm;have hi:=j9 (raw:=raw) (n:=m) (a:=na raw a) oM;split;{obtain⟨g1,g2⟩:=oY (raw:=raw) (q:=q) (m:=m) hn (k:=k) (a:=na raw (na raw a)) h;grind};{obtain⟨g1,g2⟩:=oY (raw:=raw) (q:=q) (m:=m) hn (k:=k) (a:=na raw (na raw a)) (p:=p++[⟨((1+fdN raw 4 a:Nat):Int),fdN raw m (na raw a),R0⟩]) ⟨λd hd=>by rcases wZ.1 hd with hd|hd;{exact h.d d hd};grind⟩;grind}}}
def Wi (raw:List UInt8):PathOk (fdY raw 0).1.g.n (fdY raw 0).1.g.us.length (fdS raw).path/\(fdS raw).path.length<=3:=by have h:=(j1 raw 0).g.n1;obtain⟨g1,g2⟩:=oY (raw:=raw) (q:=(fdY raw 0).1.q) (m:=(fdY raw 0).1.g.us.length) (n:=(fdY raw 0).1.g.n) oM (k:=fdN raw 4 (fdY raw 0).2) (a:=na raw (fdY raw 0).2) (p:=[]) ⟨λd hd=>absurd hd (by simp)⟩;grind [fdS,fdN]
def U9 (raw:List UInt8):(fdS raw).sz 43:=by obtain⟨h1,h2⟩:=Wi raw;refine⟨(j1 raw 0).sz,⟨by omega,λd hd=>?_⟩,⟨by show 0<2^38;decide,λa ha=>absurd ha (by simp[fdS]),λa ha=>absurd ha (by simp[fdS])⟩⟩;rcases h1.d d hd with⟨_,_,_,h⟩|⟨_,_,_,q,hq,h⟩;{rw[h];exact⟨xO _,xO _⟩};{rw[h];exact z5 (hq.mono (by decide))}
structure F.wf (f:F) (n:Int):Prop where
 cn:Cn f.ts
 v:∀ t,t∈f.ts->0<=t.1/\t.1<n
theorem F.wf.merge {f g:F}{c:Rat}{n:Int}(hf:f.wf n)(hg:g.wf n):(f.merge g c).wf n:=⟨hf.cn.mrg hg.cn,λt ht=>by
 rcases dK ht with⟨u,hu,e⟩|⟨u,hu,e⟩;{rw[<-e];exact hf.v u hu}
 ·rw[<-e];exact hg.v u hu⟩
theorem F.wf.num (q:Rat)(n:Int):(F.num q).wf n:=⟨Cn.nil,λt ht=>absurd ht (by simp[F.num])⟩
theorem F.wf.var {v n:Int}(h1:0<=v)(h2:v<n):(F.var v).wf n:=⟨Cn.nil.cons (by simp) (by grind),λt ht=>by grind [F.var]⟩
theorem F.wf.zero0 (n:Int):(⟨[],0⟩:F).wf n:=⟨Cn.nil,λt ht=>absurd ht (by simp)⟩
theorem F.wf.scale {f:F}{c:Rat}{n:Int}(hf:f.wf n):(f.scale c).wf n:=F.wf.merge (F.wf.zero0 n) hf
theorem F.wf.add {f g:F}{n:Int}(hf:f.wf n)(hg:g.wf n):(f.add g).wf n:=hf.merge hg
theorem F.wf.mono {f:F}{n m:Int}(hf:f.wf n)(h:n<=m):f.wf m:=⟨hf.cn,λt ht=>⟨(hf.v t ht).1,by have:=(hf.v t ht).2;omega⟩⟩
def Qd (raw:List UInt8)(N:Nat):∀ (n v:Nat) (f:F) (a:Nat),v+n<=N->f.wf N->(iU raw n v f a).1.wf N
 |0,_,_,_,_,h=>h| n+1,v,f,a,hv,h=>by unfold iU;split;{exact Qd raw N n _ _ _ oM (h.add (F.wf.var oM oM).scale)};{exact Qd raw N n _ _ _ oM h}
theorem Bp (raw:List UInt8)(n a:Nat):(fdF raw n a).1.wf n:=Qd raw n n 0 _ _ oM (F.wf.num _ _)
def Qa {raw:List UInt8}{d:Nat}:∀ {n v a:Nat} {i:Nat} {f:F},(fdL raw d n v a).1[i]?=some f->f.wf ((v+i*d:Nat):Int)
 |0,_,_,i,f,h=>by grind [fdL]| n+1,v,a,0,f,h=>by simp only[fdL,l8,t5] at h;rw[<-h,nF,tM];grind [Bp]| n+1,v,a,i+1,f,h=>by simp only[fdL,m8] at h;have:=Qa h;grind
def wO (L:List Lem) (k:Nat):Rat:=((L[k-1]?).map λm=>m.v.q).getD 0
def j5 (L:List Lem) (unit:Int):Nat->List Lem->Nat×Nat->Nat×Nat
 |_,[],b=>b| n,m::r,b=>j5 L unit (n+1) r (if m.u=unit then (if m.up=true then (if b.2=0\/wX m.v.q (wO L b.2)<0 then (b.1,n+1) else b) else (if b.1=0\/0<wX m.v.q (wO L b.1) then (n+1,b.2) else b)) else b)
def Scp.best (s:Scp) (unit:Int):Nat×Nat:=j5 s.lems unit 0 s.lems (0,0)
def WN {L:List Lem}{unit:Int}:∀ {r:List Lem} {n:Nat} {b:Nat×Nat},r=L.drop n->(∀ k,k=b.1\/k=b.2->k≠0->∃ m,L[k-1]?=some m/\m.u=unit) ->∀ k,k=(j5 L unit n r b).1\/k=(j5 L unit n r b).2->k≠0->∃ m,L[k-1]?=some m/\m.u=unit
 |[],n,b,_,hb=>hb| m::r,n,b,hr,hb=>by
  have hm:L[n]?=some m:=by
   (have:(L.drop n)[0]?=some m:=by grind);grind
  have hr':r=L.drop (n+1):=by
   (have:(L.drop n).drop 1=L.drop (n+1):=by simp_all);grind
  unfold j5;refine WN hr' λk hk hk0=>?_;split at hk;{rename_i hu;have new:∃ m,L[n+1-1]?=some m/\m.u=unit:=⟨m,hm,hu⟩;split at hk;{split at hk;{rcases hk with rfl|rfl;{simp_all};omega};{exact hb k hk hk0}};{split at hk;{rcases hk with rfl|rfl;{exact new};simp_all};{exact hb k hk hk0}}};{exact hb k hk hk0}
def aV {s:Scp}{unit:Int}{k:Nat}(hk:k=(s.best unit).1\/k=(s.best unit).2)(h0:k≠0):∃ m,s.lems[k-1]?=some m/\m.u=unit :=
 WN (by simp) (λk hk hk0=>by omega) k hk h0
def gZ (a b:List (Row×Rat)) (c:Rat):List (Row×Rat):=b.foldl (λa m=>plMq a m.1 (m.2*c)) a
def Scp.atLeastM (s:Scp) (v:Int):List (Row×Rat):=if v<s.q.g.n then [(⟨1,v,0,0⟩,1)] else [(⟨5,v-s.q.g.n,0,0⟩,1)]
def upM (j:Int) (lo hi:Nat) (l u:Rat):List (Row×Rat) :=
 if yG u<=0 then [(⟨10,j,0,hi⟩,1)]
 else if 0<=yG l then [(⟨8,j,lo,0⟩,1),(⟨12,j,0,hi⟩,1)]
 else [(⟨12,j,0,hi⟩,(1/(u-l))*u),(⟨13,j,lo,hi⟩,1/(u-l))]
def Scp.atMostM (s:Scp) (v:Int):Option (List (Row×Rat)) :=
 if v<s.q.g.n then some [(⟨2,v,0,0⟩,1)]
 else if (s.best (v-s.q.g.n)).1=0\/(s.best (v-s.q.g.n)).2=0 then none
 else some (upM (v-s.q.g.n) (s.best (v-s.q.g.n)).1 (s.best (v-s.q.g.n)).2 (wO s.lems (s.best (v-s.q.g.n)).1) (wO s.lems (s.best (v-s.q.g.n)).2))
def Scp.aboveL (s:Scp):List (Int×Rat)->List (Row×Rat)->Option (List (Row×Rat))
 |[],l=>some l
 |t::r,l=>match (if 0<yG t.2 then some (s.atLeastM t.1) else s.atMostM t.1) with
  |none=>none| some more=>s.aboveL r (gZ l more (aO t.2))
def Scp.above (s:Scp) (f:F):Option (Rat×List (Row×Rat)):=(s.aboveL f.ts []).map λl=>((f.sub (s.sum (mR l)).2).c,l)
def Qt (j:Int) (x y:Option (Rat×List (Row×Rat))):List Lem :=
 (match x with
 |some v=>[⟨j,false,zK v.1,mR v.2⟩]| none=>[])++(match y with
 |some w=>[⟨j,true,zK (-w.1),mR w.2⟩]| none=>[])
def Vj (q:Qry) (path:List Dec):List A->Nat->List Lem->List Lem
 |[],_,L=>L| p::r,j,L=>Vj q path r (j+1) (L++Qt j ((⟨q,path,L⟩:Scp).above p.f) ((⟨q,path,L⟩:Scp).above (p.f.scale (-1))))
def Scp.bounded (s:Scp):Scp:=⟨s.q,s.path,Vj s.q s.path s.q.g.us 0 s.lems⟩
inductive Wt (s:Scp):List (Row×Rat)->Nat->Prop
 |nil:Wt s [] 0
 |cons {r q l k g N} (hk:Fits k q) (hg:∀ f,s.fm r=some f->f.fl g 3000) (h:Wt s l N):Wt s ((r,q)::l) (k+g+5+N)
theorem Wt.to {s l N M}(h:Wt s l N)(e:N=M):Wt s l M:=e ▸ h
theorem Wt.mem {s:Scp}:∀ {l:List (Row×Rat)} {N:Nat},Wt s l N->∀ t,t∈l->Fits N t.2
 |_,_,.nil,t,ht=>absurd ht (by simp)| _,_,.cons hk hg h,t,ht=>by rcases yS.1 ht with rfl|ht;{exact hk.mono oM};{exact (h.mem t ht).mono oM}
theorem Wt.plM {s:Scp}{r:Row}{q:Rat}{k g:Nat}(hk:Fits k q)(hg:∀ f,s.fm r=some f->f.fl g 3000):∀ {l:List (Row×Rat)} {N:Nat},Wt s l N->∃ M,M<=k+g+5+N/\Wt s (plM r q l) M
 |_,_,.nil=>⟨_,yQ _,.cons hk hg .nil⟩| _,_,.cons (r:=r') (q:=q') (l:=l) (k:=k') (g:=g') (N:=N') hk' hg' h=>by unfold Go.Proofs.YtboocdbmnfjomaaGreat.plM;split;{obtain⟨M,h1,h2⟩:=Wt.plM hk hg h;exact⟨_,by omega,.cons hk' hg' h2⟩};{split;{rename_i e;have e':r'=r:=e;rw[e'] at hg';refine⟨_,?_,.cons (k:=k'+k+1) ((qE hk' hk).mono oM) hg' h⟩;omega};{exact⟨_,by omega,.cons hk hg (.cons hk' hg' h)⟩}}
theorem Wt.plMq {s:Scp}{r:Row}{q:Rat}{k g:Nat}(hk:Fits k q)(hg:∀ f,s.fm r=some f->f.fl g 3000){l:List (Row×Rat)}{N:Nat}(h:Wt s l N):∃ M,M<=k+g+5+N/\Wt s (plMq l r q) M:=by unfold Go.Proofs.YtboocdbmnfjomaaGreat.plMq;split;{grind};{exact Wt.plM hk hg h}
theorem Wt.merge {s:Scp}{c:Rat}{kc:Nat}(hc:Fits kc c):∀ {b:List (Row×Rat)} {B:Nat} {a:List (Row×Rat)} {N:Nat},Wt s b B->Wt s a N->∃ M,M<=B+(kc+2)*b.length+N/\Wt s (gZ a b c) M
 |_,_,a,N,.nil,ha=>⟨N,by simp,ha⟩| _,_,a,N,.cons (r:=r) (q:=q) (l:=l) (k:=k) (g:=g) (N:=B) hk hg h,ha=>by obtain⟨M1,h1,h2⟩:=Wt.plMq (q:=q*c) (wG hk hc) hg ha;obtain⟨M,g1,g2⟩:=Wt.merge hc h h2;refine⟨M,?_,g2⟩;rw[fH,Z1];omega
def Cv (r:Row)(q:Rat)(l):(plMq l r q).length<=l.length+1:=by grind [plMq,UN]
def VQ (c:Rat):∀ (b a:List (Row×Rat)),(gZ a b c).length<=a.length+b.length
 |[],a=>yQ _| t::b,a=>by have h1:=VQ c b (plMq a t.1 (t.2*c));have h2:=Cv t.1 (t.2*c) a;have e:gZ a (t::b) c=gZ (plMq a t.1 (t.2*c)) b c:=rfl;grind
theorem Wt.sumL {s:Scp}:∀ {l:List (Row×Rat)} {N:Nat},Wt s l N->∀ {acc f:F} {a n:Nat},acc.fl a n->sumL s acc (mR l)=some f->f.fl (a+N) (n+3000*l.length)
 |_,_,.nil,acc,f,a,n,ha,h=>by cases h;exact ha
 |_,_,.cons (r:=r) (q:=q) (l:=l) (k:=k) (g:=g) (N:=B) hk hg hw,acc,f,a,n,ha,h=>by have e:mR ((r,q)::l)=⟨r,zK q⟩::mR l:=rfl;rw[e] at h;unfold Go.Proofs.YtboocdbmnfjomaaGreat.sumL at h;dsimp only at h;split at h;{cases h};{rename_i f0 hf0;rw[yD] at h;have:=hw.sumL (ha.add ((hg f0 hf0).scale hk)) h;exact this.mono oM (by grind)}
theorem Wt.sum {s:Scp}{l:List (Row×Rat)}{N:Nat}(h:Wt s l N):(s.sum (mR l)).2.fl (1+N) (3000*l.length):=by unfold Scp.sum;split;{exact zero_fl.mono oM oM};{split;{exact zero_fl.mono oM oM};{rename_i f hf;exact (h.sumL zero_fl hf).mono oM oM}}
end Go.Proofs.YtboocdbmnfjomaaGreat
