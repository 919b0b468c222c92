/- A part of the proof: RwB, UtA, RvA, RvB, DvA, RwC. -/
import Derived.Test.YtaeaffgjdcigoaaGreatW21
import Derived.Test.YtaeaffgjdcigoaaGreatW20
set_option linter.all false
namespace Go.Proofs.YtaeaffgjdcigoaaGreat
open Go
set_option maxRecDepth 100000
set_option maxHeartbeats 2000000
def Scp.lem (s:Scp) (n unit:Int) (up:Bool):Option Rat :=
 if 1<=n/\n<=s.lems.length then
  match s.lems[(n-1).toNat]? with
  |some m=>if m.u=unit/\m.up=up then some m.v.q else none| none=>none
 else none
def ZZ {s:Scp}{n unit:Int}{up:Bool}(h:¬(1<=n/\n<=s.lems.length)):s.lem n unit up=none:=if_neg h
def i4 {s:Scp}{n unit:Int}{up:Bool}{m:Lem}(h:1<=n)(h2:n<=s.lems.length)(hm:s.lems[(n-1).toNat]?=some m):s.lem n unit up=if m.u=unit/\m.up=up then some m.v.q else none:=by unfold Scp.lem;simp_all
def DU (s:Scp)(n unit:Int)(up:Bool)(hs:Lsz (2^36) s.lems):zC 294 [sv s,iV n,iV unit,zL up] (.tup [rv (zI ((s.lem n unit up).getD 0)),zL ((s.lem n unit up).isSome)]):=by
 refine sF Tryz.f294 ?_;have hno:¬(1<=n/\n<=s.lems.length)->s.lem n unit up=none:=λh=>ZZ h;have hat:∀ m,1<=n->n<=s.lems.length->s.lems[(n-1).toNat]?=some m->s.lem n unit up=if m.u=unit/\m.up=up then some m.v.q else none:=λm h1 h2 h3=>i4 h1 h2 h3
 have hsl:=hs.len;have hss:=hs.sz;generalize s.lem n unit up=o at *;obtain⟨⟨⟨gn,us,os⟩,⟨lo,hi,rows⟩,⟨ts,c1,c2,c3⟩⟩,path,lems⟩:=s;simp only at hno hat hsl hss;have fin:∀ (W:R) (b:Bool),o=none->W=zI (o.getD 0)/\b=o.isSome->W=R0/\b=false:=λW b h1 h2=>by rw[h1] at h2;exact⟨by rw[h2.1];exact uJ,h2.2⟩
 obtain⟨W,hW⟩:∃ W,W=zI (o.getD 0):=⟨_,rfl⟩;obtain⟨b,hb⟩:∃ b,b=o.isSome:=⟨_,rfl⟩;rw[<-hW,<-hb];have fin':o=none->W=R0/\b=false:=λh=>fin W b h ⟨hW,hb⟩;have fin2:∀ q,o=some q->W=zI q/\b=true:=λq h=>by grind
 clear fin hW hb;obtain⟨W1,W2,W3⟩:=W;have fin3:o=none->W1=false/\W2=[]/\W3=[]/\b=false:=λh=>by grind
 clear fin';cbv;refine zQ (λe1=>?_) (λe1=>?_);{cbv;obtain⟨g1,g2,g3,g4⟩:=fin3 (hno oM);subst g1 g2 g3 g4;exact rA};cbv;refine zQ (λe2=>?_) (λe2=>?_);{cbv;obtain⟨g1,g2,g3,g4⟩:=fin3 (hno (by rw[zA] at e2;exact om));subst g1 g2 g3 g4;exact rA};cbv;rw[zA] at e2;obtain⟨m,hm⟩:∃ m,lems[(n-1).toNat]?=some m:=zS (by exact om);have hat':=hat m oM (by exact om) hm;have hms:=hss m (z3 hm);have cc:=Sz m.v hms;have idx:∀ {K:List PV->Prop},K (lc m)->IdxOk 6 (λ_=>enc lc lems) (λ_=>n-1) K:=λhK=>xQ (l:=lems) (n-1).toNat oM (by exact om) xB y7 (λm' hm'=>by grind);generalize hq:m.v.q=q at *;obtain⟨mu,mup,⟨v1,v2,v3⟩,mpf⟩:=m;simp only at hat';clear hat hno hq;generalize hwq:zI q=wq at *;refine⟨zD om om,idx ?_⟩;cbv;refine zQ (λe3=>?_) (λe3=>?_);{cbv;refine⟨zD om om,idx ?_⟩;cbv;refine zF (λe4=>?_) (λe4=>?_);{cbv;obtain⟨g1,g2⟩:=fin2 q (by grind);rw[hwq] at g1;subst g1 g2;refine⟨zD om om,idx ?_⟩;cbv;refine cA cc ?_;cbv;exact rA};{cbv;obtain⟨g1,g2,g3,g4⟩:=fin3 (by grind);subst g1 g2 g3 g4;exact rA}};{cbv;obtain⟨g1,g2,g3,g4⟩:=fin3 (by grind);subst g1 g2 g3 g4;exact rA}
def Scp.dcd (s:Scp) (kind unit:Int):Bool:=s.path.any λd=>decide (d.k=kind)&&(decide (d.i=unit)&&d.fits s.q)
def Sl (s:Scp)(kind unit:Int)(d:Dec)(hd:d.x.sz (2^36)):zC 311 [.agg (dc d),.dptr [iV kind] 0,.dptr [iV unit] 0,.dptr (sc s) 0] (zL (decide (d.k=kind)&&(decide (d.i=unit)&&d.fits s.q))):=by
 refine sF Tryz.f311 ?_;have cf:=XC s.q d hd;generalize d.fits s.q=ft at *;obtain⟨⟨⟨gn,us,os⟩,⟨lo,hi,rows⟩,⟨ts,c1,c2,c3⟩⟩,path,lems⟩:=s;obtain⟨k,i,x1,x2,x3⟩:=d;generalize hr:(decide (k=kind)&&(decide (i=unit)&&ft))=r;cbv;refine zQ (λe1=>?_) (λe1=>?_)
 ·rw[decide_eq_true e1,yW] at hr;cbv;refine zQ (λe2=>?_) (λe2=>?_)
  ·rw[decide_eq_true e2,yW] at hr;cbv;refine cA cf ?_;cbv
   (refine rC ?_;cbv)
   exact zX hr
  ·rw[decide_eq_false e2] at hr;cbv
   (refine rC ?_;cbv)
   exact zK hr.symm
 ·rw[decide_eq_false e1] at hr;cbv
  (refine rC ?_;cbv)
  exact zK hr.symm
def DV (s:Scp)(kind unit:Int)(hs:Dsz (2^36) s.path):zC 310 [sv s,iV kind,iV unit] (zL (s.dcd kind unit)):=by refine sF Tryz.f310 ?_;have c1:=R7 (λd=>decide (d.k=kind)&&(decide (d.i=unit)&&d.fits s.q)) s.path (bQ hs.len (by decide)) 311 [.dptr [iV kind] 0,.dptr [iV unit] 0,.dptr (sc s) 0] (λd hd=>Sl s kind unit d (hs.sz d hd));have e:(s.path.any λd=>decide (d.k=kind)&&(decide (d.i=unit)&&d.fits s.q))=s.dcd kind unit:=rfl;rw[e] at c1;generalize s.dcd kind unit=r at *;obtain⟨⟨⟨gn,us,os⟩,⟨lo,hi,rows⟩,⟨ts,c1',c2,c3⟩⟩,path,lems⟩:=s;cbv;refine qR (.trans (.frz 3 rfl rfl (by repeat' first|exact trivial|apply And.intro) (by repeat' first|exact trivial|apply And.intro)) (.trans (.frz 4 rfl rfl (by repeat' first|exact trivial|apply And.intro) (by repeat' first|exact trivial|apply And.intro)) (.frz 5 rfl rfl (by repeat' first|exact trivial|apply And.intro) (by repeat' first|exact trivial|apply And.intro)))) rfl (by exact⟨lR,⟨rfl,lR,lR,lR,trivial⟩,trivial⟩) c1 rfl ?_;cbv;exact rA
abbrev usv (s:Scp) (r:Row) (v p:A) (l u:R) (low top:Bool):PV:=.agg [iV s.q.g.n,alv s.q.g.us,alv s.q.g.os,rlv s.q.r.lo,rlv s.q.r.hi,alv s.q.r.rows,tsv s.q.goal.ts,zL s.q.goal.c.neg,nat s.q.goal.c.num,nat s.q.goal.c.den,dlv s.path,llv s.lems,
 (iV r.k),iV r.i,iV r.lo,iV r.hi,tsv v.ts,zL v.c.neg,nat v.c.num,nat v.c.den,tsv p.ts,zL p.c.neg,nat p.c.num,nat p.c.den,
 (zL l.neg),nat l.num,nat l.den,zL u.neg,nat u.num,nat u.den,zL low,zL top]
def onB (s:Scp) (r:Row) (l:Rat) (low:Bool):Bool:=decide (r.hi=0)&&((decide (r.lo=0)&&s.dcd 1 r.i) || (low&&decide (0<=yA l)))
def pZ (s:Scp) (r:Row) (u:Rat) (top:Bool):Bool:=decide (r.lo=0)&&((decide (r.hi=0)&&s.dcd 2 r.i) || (top&&decide (yA u<=0)))
def M0 (s:Scp)(r:Row)(v p:A)(l u:R)(low top:Bool)(hs:Dsz (2^36) s.path)(hx:l.num.length<2^40):zC 295 [usv s r v p l u low top] (zL (onB s r l.q low)):=by
 refine sF Tryz.f295 ?_;have cd:=DV s 1 r.i hs;have cs:=s86 l hx;generalize hres:onB s r l.q low=res;have hr:res=(decide (r.hi=0)&&((decide (r.lo=0)&&s.dcd 1 r.i) || (low&&decide (0<=yA l.q)))):=hres.symm;clear hres hs;generalize s.dcd 1 r.i=dd at *;generalize yA l.q=sg at *;obtain⟨⟨⟨gn,us,os⟩,⟨lo,hi,rows⟩,⟨ts,c1,c2,c3⟩⟩,path,lems⟩:=s;obtain⟨k,i,rlo,rhi⟩:=r;obtain⟨vt,v1,v2,v3⟩:=v;obtain⟨pt,p1,p2,p3⟩:=p;obtain⟨l1,l2,l3⟩:=l;obtain⟨u1,u2,u3⟩:=u;simp only at hr;cbv;refine Hk ?_;cbv;refine zQ (λe1=>?_) (λe1=>?_)
 ·rw[decide_eq_true e1,yW] at hr;cbv;refine zQ (λe2=>?_) (λe2=>?_)
  ·rw[decide_eq_true e2,yW] at hr;cbv;refine cA cd ?_;cbv;refine yB (λe3=>?_) (λe3=>?_)
   ·rw[e3,Us] at hr;cbv
    (refine rC ?_;cbv)
    exact yV hr
   ·rw[e3,r9] at hr;cbv;refine yB (λe4=>?_) (λe4=>?_)
    ·rw[e4,yW] at hr;cbv;refine cA cs ?_;cbv
     (refine rC ?_;cbv)
     exact zX hr.symm
    ·rw[e4,kS] at hr;cbv
     (refine rC ?_;cbv)
     exact zK hr
  ·rw[decide_eq_false e2,kS,r9] at hr;cbv;refine yB (λe4=>?_) (λe4=>?_)
   ·rw[e4,yW] at hr;cbv;refine cA cs ?_;cbv
    (refine rC ?_;cbv)
    exact zX hr.symm
   ·rw[e4,kS] at hr;cbv
    (refine rC ?_;cbv)
    exact zK hr
 ·rw[decide_eq_false e1,kS] at hr;cbv
  (refine rC ?_;cbv)
  exact zK hr
def Td (s:Scp)(r:Row)(v p:A)(l u:R)(low top:Bool)(hs:Dsz (2^36) s.path)(hx:u.num.length<2^40):zC 296 [usv s r v p l u low top] (zL (pZ s r u.q top)):=by
 refine sF Tryz.f296 ?_;have cd:=DV s 2 r.i hs;have cs:=s86 u hx;generalize hres:pZ s r u.q top=res;have hr:res=(decide (r.lo=0)&&((decide (r.hi=0)&&s.dcd 2 r.i) || (top&&decide (yA u.q<=0)))):=hres.symm;clear hres hs;generalize s.dcd 2 r.i=dd at *;generalize yA u.q=sg at *;obtain⟨⟨⟨gn,us,os⟩,⟨lo,hi,rows⟩,⟨ts,c1,c2,c3⟩⟩,path,lems⟩:=s;obtain⟨k,i,rlo,rhi⟩:=r;obtain⟨vt,v1,v2,v3⟩:=v;obtain⟨pt,p1,p2,p3⟩:=p;obtain⟨l1,l2,l3⟩:=l;obtain⟨u1,u2,u3⟩:=u;simp only at hr;cbv;refine Hk ?_;cbv;refine zQ (λe1=>?_) (λe1=>?_)
 ·rw[decide_eq_true e1,yW] at hr;cbv;refine zQ (λe2=>?_) (λe2=>?_)
  ·rw[decide_eq_true e2,yW] at hr;cbv;refine cA cd ?_;cbv;refine yB (λe3=>?_) (λe3=>?_)
   ·rw[e3,Us] at hr;cbv
    (refine rC ?_;cbv)
    exact yV hr
   ·rw[e3,r9] at hr;cbv;refine yB (λe4=>?_) (λe4=>?_)
    ·rw[e4,yW] at hr;cbv;refine cA cs ?_;cbv
     (refine rC ?_;cbv)
     exact zX hr.symm
    ·rw[e4,kS] at hr;cbv
     (refine rC ?_;cbv)
     exact zK hr
  ·rw[decide_eq_false e2,kS,r9] at hr;cbv;refine yB (λe4=>?_) (λe4=>?_)
   ·rw[e4,yW] at hr;cbv;refine cA cs ?_;cbv
    (refine rC ?_;cbv)
    exact zX hr.symm
   ·rw[e4,kS] at hr;cbv
    (refine rC ?_;cbv)
    exact zK hr
 ·rw[decide_eq_false e1,kS] at hr;cbv
  (refine rC ?_;cbv)
  exact zK hr
def yL {α:Type}{p:α->List PV}{n:Nat}{l:List α}{i:Nat}{a:α}{K:List PV->Prop}(h:l[i]?=some a)(hf:∀ a,yT qO (p a)=true)(hn:∀ a,(p a).length=n)(hK:K (p a)):IdxOk n (λ_=>enc p l) (λ_=>(i:Int)) K :=
 xQ (l:=l) i rfl (wE.1 h).1 hf hn (λa' ha'=>by rw[h] at ha';cases ha';exact hK)
def x5 {α:Type}{p:α->List PV}{n:Nat}{l:List α}{i:Nat}{k:Int}{a:α}{K:List PV->Prop}(h:l[i]?=some a)(hk:k=(i:Int))(hf:∀ a,yT qO (p a)=true)(hn:∀ a,(p a).length=n)(hK:K (p a)):IdxOk n (λ_=>enc p l) (λ_=>k) K :=
 xQ (l:=l) i hk (wE.1 h).1 hf hn (λa' ha'=>by rw[h] at ha';cases ha';exact hK)
def jS {α:Type}{p:α->List PV}{l:List α}{i:Nat}(h:(i:Int)<((enc p l).length:Int)):i<l.length:=by rw[zA] at h;omega
def dZ {α:Type}{p:α->List PV}{l:List α}{i:Nat}(h:¬(i:Int)<((enc p l).length:Int))(h2:i<=l.length):i=l.length:=by rw[zA] at h;omega
def Yo {rs:List ResultVar}{r:PV}{ps ps':PS}{n:Nat}{o:Obj'}(hw:Wk ps ps')(h3:lv r=true)(h4:yN ps'.objs n=some o)(h5:bF o=true)(h6:Nat.ble 1000000 n=true)(h:match bE ps' rs with
  |some l=>les (lU l) (ren id r)| none=>False):RetOk rs r [(n,o)] [] ps:=by
 cases h1:bE ps' rs with
 |none=>rw[h1] at h;exact h.elim| some l=>rw[h1] at h;exact⟨ps',l,id,hw,h1,bY h,h3,⟨⟨by rw[Wd];exact h4,h5⟩,trivial⟩,rfl,⟨rfl,Nat.le_of_ble_eq_true h6⟩,trivial⟩
def FE (a:A)(vars:Int)(ha:a.sz (2^32)):zC 95 [av a,iV vars] (zL (a.valid vars)):=by
 refine sF Tryz.f95 ?_;obtain⟨ts,c⟩:=a;have hl:=ha.t.len;have hts:=ha.t.sz;have cc:=FI c ha.c;generalize hr:A.valid vars ⟨ts,c⟩=r;have hr0:r=(vT vars (-1) ts&&c.ok):=hr.symm;simp only at hl hts cc;generalize c.ok=co at *;clear hr ha;cbv;refine z7 (σ:=Nat×Int) (λs=>⟨[(1,iV vars),(2,.ptr 2 0),(5,iV s.1)],[(2,.box [tsv ts,zL c.neg,nat c.num,nat c.den])]⟩)
  (λs=>s.1<=ts.length/\r=(vT vars s.2 (ts.drop s.1)&&co)/\(s.1=0->s.2=-1)/\(s.1≠0->∃ u,ts[s.1-1]?=some u/\u.1=s.2)) (λs=>ts.length-s.1)
  (0,-1) ⟨om,hr0,λ_=>rfl,λh=>absurd rfl h⟩ (wkZ) ?_
 intro s hs;obtain⟨h1,hv,h3,h4⟩:=hs;generalize s.1=i at *;generalize s.2=p at *;cbv;refine zF (λh5=>?_) (λh5=>?_)
 ·(obtain⟨t,ht⟩:=zS (jS h5);rw[zY ht,YP] at hv;have htz:=hts t (z3 ht);have cs:=s35 t.2 (by have:=htz.n;omega);have cv:=FI t.2 htz;have hq:decide (t.2.q≠0)=decide (yA t.2.q≠0):=by rw[decide_eq_decide];exact sgnQ_ne.symm);rw[hq] at hv
  (generalize yA t.2.q=sg at *;generalize hok:t.2.ok=ok at *;generalize hrest:(vT vars t.1 (ts.drop (i+1))&&co)=rest;have hv':r=(decide (0<=t.1)&&decide (t.1<vars)&&decide (p<t.1)&&decide (sg≠0)&&ok&&rest):=by grind);have hi0:i<2^38:=by omega
  clear hv;cbv;refine yL ht wT wO ?_;cbv;refine zM 37 (by cbv) ?_;cbv;refine zQ (λe1=>?_) (λe1=>?_)
  ·cbv
   (refine rC ?_;cbv)
   exact zK (by grind)
  cbv;refine zQ (λe2=>?_) (λe2=>?_)
  ·cbv
   (refine rC ?_;cbv)
   exact zK (by grind)
  (cbv;have fin:(¬(p<t.1)->r=false):=λh=>by grind);have hmain:(p<t.1)->r=(decide (sg≠0)&&ok&&rest):=λh=>by grind
  clear hv';have tail:r=(decide (sg≠0)&&ok&&rest)->True:=λ_=>trivial;refine zQ (λe3=>?_) (λe3=>?_)
  ·obtain⟨u,hu,hu2⟩:=h4 om;cbv;refine⟨zD om om,x5 hu om wT wO ?_⟩;cbv;refine zQ (λe4=>?_) (λe4=>?_)
   ·cbv
    (refine rC ?_;cbv)
    exact zK (fin oM)
   have hm:=hmain oM;cbv;refine dA cs ?_;cbv;refine zQ (λe5=>?_) (λe5=>?_)
   ·cbv
    (refine rC ?_;cbv)
    exact zK (by grind)
   rw[decide_eq_true e5,yW] at hm;cbv;refine dA cv ?_;cbv;refine zO (λe6=>?_) (λe6=>?_);{rw[e6,yW] at hm;cbv;exact⟨zD om om,(i+1,t.1),⟨by grind,by grind,λh=>absurd h (by simp),λ_=>⟨_,ht,rfl⟩⟩,by grind,wkZ⟩}
   ·cbv
    (refine rC ?_;cbv)
    exact zK (by grind)
  ·have hp:=h3 om;have hm:=hmain oM;cbv;refine dA cs ?_;cbv;refine zQ (λe5=>?_) (λe5=>?_)
   ·cbv
    (refine rC ?_;cbv)
    exact zK (by grind)
   rw[decide_eq_true e5,yW] at hm;cbv;refine dA cv ?_;cbv;refine zO (λe6=>?_) (λe6=>?_);{rw[e6,yW] at hm;cbv;exact⟨zD om om,(i+1,t.1),⟨by grind,by grind,λh=>absurd h (by simp),λ_=>⟨_,ht,rfl⟩⟩,by grind,wkZ⟩}
   ·cbv
    (refine rC ?_;cbv)
    exact zK (by grind)
 ·(have he:=dZ h5 h1;rw[he,vE] at hv;have hv':r=co:=by rw[hv];rfl);cbv
  refine cA cc ?_;cbv
  (refine rC ?_;cbv)
  exact zX hv'.symm
def M8 (l:List A)(vars:Int)(hl:Asz (2^32) l):zC 155 [alv l,iV vars] (zL (l.all (A.valid vars))):=by
 refine sF Tryz.f155 ?_;have hll:=hl.len;have hls:=hl.sz;have hc:∀ a,a∈l->zC 95 [av a,iV vars] (zL (a.valid vars)):=λa h=>FE a vars (hls a h);obtain⟨P,hP⟩:=ex (A.valid vars);rw[hP] at hc ⊢;generalize hr:l.all P=r;have hr0:r=(l.drop 0).all P:=hr.symm;clear hr hls hl;cbv;refine z7 (σ:=Nat) (λi=>⟨[(0,alv l),(1,iV vars),(5,iV i)],[]⟩) (λi=>i<=l.length/\r=(l.drop i).all P) (λi=>l.length-i) 0 ⟨by omega,hr0⟩ (wkZ) ?_;intro i hi;obtain⟨h1,h2⟩:=hi;cbv;refine zF (λh5=>?_) (λh5=>?_)
 ·have hlt:=jS h5;obtain⟨a,ha⟩:=zS hlt;have ca:=hc a (z3 ha);rw[zY ha,List.all_cons] at h2;generalize P a=pa at *;generalize hrest:(l.drop (i+1)).all P=rest at *;cbv;refine yL ha j7 cJ ?_;cbv;refine cA ca ?_;cbv;refine zO (λe=>?_) (λe=>?_);{cbv;exact⟨zD om om,i+1,⟨om,by grind⟩,om,wkZ⟩}
  ·cbv
   (refine rC ?_;cbv)
   exact zK (by grind)
 ·have he:=dZ h5 h1;rw[he,vE] at h2;have h2':r=true:=h2;cbv
  (refine rC ?_;cbv)
  exact yV h2'
def M9 (l:List R)(hl:Rsz (2^32) l):zC 156 [rlv l] (zL (l.all R.ok)):=by
 refine sF Tryz.f156 ?_;have hll:=hl.len;have hls:=hl.sz;have hc:∀ a,a∈l->zC 157 [rv a] (zL a.ok):=λa h=>FI a (hls a h);obtain⟨P,hP⟩:=ex R.ok;rw[hP] at hc ⊢;generalize hr:l.all P=r;have hr0:r=(l.drop 0).all P:=hr.symm;clear hr hls hl;cbv;refine z7 (σ:=Nat) (λi=>⟨[(0,rlv l),(3,iV i)],[]⟩) (λi=>i<=l.length/\r=(l.drop i).all P) (λi=>l.length-i) 0 ⟨by omega,hr0⟩ (wkZ) ?_;intro i hi;obtain⟨h1,h2⟩:=hi;cbv;refine zF (λh5=>?_) (λh5=>?_)
 ·have hlt:=jS h5;obtain⟨a,ha⟩:=zS hlt;have ca:=hc a (z3 ha);rw[zY ha,List.all_cons] at h2;generalize P a=pa at *;generalize hrest:(l.drop (i+1)).all P=rest at *;cbv;refine yL ha gT bV ?_;cbv;refine cA ca ?_;cbv;refine zO (λe=>?_) (λe=>?_);{cbv;exact⟨zD om om,i+1,⟨om,by grind⟩,om,wkZ⟩}
  ·cbv
   (refine rC ?_;cbv)
   exact zK (by grind)
 ·have he:=dZ h5 h1;rw[he,vE] at h2;have h2':r=true:=h2;cbv
  (refine rC ?_;cbv)
  exact yV h2'
def R3 (g:Grp)(hg:g.sz (2^32)):zC 93 [gv g] (zL g.valid):=by
 refine sF Tryz.f93 ?_;obtain⟨n,us,os⟩:=g;have hus:=hg.us;have hos:=hg.os;have hc:∀ a,a∈us->∀ k,zC 95 [av a,iV k] (zL (a.valid k)):=λa h k=>FE a k (hus.sz a h);have ca:=M8 os (n+us.length) hos;have hul:=hus.len;have hol:=hos.len;dsimp only at hul hol;generalize hr:Grp.valid ⟨n,us,os⟩=r;have hr0:r=(decide (1<=n/\n<=256/\us.length<=1024/\1<=os.length/\os.length<=256)&&vU n us&&os.all (A.valid (n+us.length))):=hr.symm;obtain⟨U,hU⟩:=ex vU;have hU0:∀ k,U k []=true:=λk=>by rw[<-hU];rfl
 have hU1:∀ k f l,U k (f::l)=(f.valid k&&U (k+1) l):=λk f l=>by rw[<-hU];rfl
 rw[hU] at hr0;generalize os.all (A.valid (n+us.length))=oa at *;have hf:¬(1<=n/\n<=256/\us.length<=1024/\1<=os.length/\os.length<=256)->r=false:=λh=>by grind
 have ht:(1<=n/\n<=256/\us.length<=1024/\1<=os.length/\os.length<=256)->r=(U n us&&oa):=λh=>by grind
 clear hr hr0 hU hg hus hos;cbv;refine zQ (λe1=>?_) (λe1=>?_)
 ·cbv
  (refine rC ?_;cbv)
  exact zK (hf okQ)
 cbv;refine zQ (λe2=>?_) (λe2=>?_)
 ·cbv
  (refine rC ?_;cbv)
  exact zK (hf okQ)
 cbv;refine zQ (λe3=>?_) (λe3=>?_)
 ·cbv
  (refine rC ?_;cbv)
  exact zK (hf okQ)
 cbv;refine zQ (λe4=>?_) (λe4=>?_)
 ·cbv
  (refine rC ?_;cbv)
  exact zK (hf okQ)
 cbv;refine zF (λe5=>?_) (λe5=>?_)
 ·cbv
  (refine rC ?_;cbv)
  exact zK (hf okQ)
 have hv:=ht okQ;have hn1:1<=n:=okQ;have hn2:n<=256:=okQ;have hu2:us.length<=1024:=okQ;clear ht hf e1 e2 e3 e4 e5;cbv;refine z7 (σ:=Nat) (λi=>⟨[(1,.ptr 1 0),(3,iV i)],[(1,.box [iV n,alv us,alv os])]⟩) (λi=>i<=us.length/\r=(U (n+i) (us.drop i)&&oa)) (λi=>us.length-i) 0 ⟨by omega,by grind⟩ (wkZ) ?_;clear hv;intro i hi;obtain⟨h1,h2⟩:=hi;cbv;refine zF (λh5=>?_) (λh5=>?_)
 ·(have hlt:=jS h5;obtain⟨a,ha⟩:=zS hlt;have cv:=hc a (z3 ha) (n+i);rw[zY ha,hU1] at h2;generalize a.valid (n+i)=pa at *;generalize hrest:U (n+i+1) (us.drop (i+1))=rest at *;have hrest':U (n+((i+1:Nat):Int)) (us.drop (i+1))=rest:=by grind);cbv
  refine zM 9 (by cbv) ?_;cbv;refine yL ha j7 cJ ?_;cbv;refine⟨zD om om,?_⟩;cbv;refine cA cv ?_;cbv;refine zO (λe=>?_) (λe=>?_);{cbv;exact⟨zD om om,i+1,⟨om,by grind⟩,om,wkZ⟩}
  ·cbv
   (refine rC ?_;cbv)
   exact zK (by grind)
 ·have he:=dZ h5 h1;rw[he,vE,hU0] at h2;have h2':r=oa:=h2;cbv;refine⟨zD okQ okQ,?_⟩;cbv;refine yJ rfl (by refine⟨lR,zB ?_,trivial⟩;rw[zA]) ca rfl ?_;cbv
  (refine rC ?_;cbv)
  exact zX h2'.symm
def oG (g:Grp)(hg:g.sz (2^32)):zC 51 [gv g] (iV (if g.valid=true then g.vars else 0)):=by
 refine sF Tryz.f51 ?_;have cv:=R3 g hg;have hb:g.valid=true->1<=g.n/\g.n<=256/\g.us.length<=1024:=λh=>by unfold Grp.valid at h;grind
 have hd:g.vars=g.n+g.us.length:=rfl;generalize g.vars=w at *;generalize g.valid=b at *;obtain⟨n,us,os⟩:=g;dsimp only at hb hd;cbv;refine cA cv ?_;cbv;refine zO (λe=>?_) (λe=>?_)
 ·have hb':=hb e;cbv;refine⟨zD okQ okQ,?_⟩;cbv
  (refine rC ?_;cbv)
  exact zB (by rw[zA,if_pos e,hd])
 ·cbv
  (refine rC ?_;cbv)
  exact zB (by grind)
def cB:List R->List R->Bool
 |l::ls,h::hs=>decide (uV l.q h.q<=0)&&cB ls hs| _,_=>true
def Xg:∀ {lo hi:List R},lo.length=hi.length->vB lo hi=(lo.all R.ok&&(hi.all R.ok&&cB lo hi))
 |[],[],_=>rfl| l::ls,h::hs,e=>by have ih:=Xg (lo:=ls) (hi:=hs) (by grind);grind [H3,cB]| [],h::hs,e=>by simp at e| l::ls,[],e=>by simp at e
def Nb (g:Reg)(n:Int)(hg:g.sz (2^31)):zC 94 [rgv g,iV n] (zL (g.valid n)):=by
 refine sF Tryz.f94 ?_;obtain⟨lo,hi,rows⟩:=g;have cl:=M9 lo (hg.lo.mono (by decide));have ch:=M9 hi (hg.hi.mono (by decide));have cr:=M8 rows n (hg.rows.mono (by decide));have hlo:=hg.lo.sz;have hhi:=hg.hi.sz;have hll:=hg.lo.len;have hhl:=hg.hi.len;have hrl:=hg.rows.len;dsimp only at hlo hhi hll hhl hrl;have cc:∀ a b,a∈lo->b∈hi->zC 48 [rv a,rv b] (iV (uV a.q b.q)):=λa b h1 h2=>s42 a b (hlo a h1) (hhi b h2);generalize hr:Reg.valid n ⟨lo,hi,rows⟩=r;have hr0:r=(decide (1<=n/\n<=256/\(lo.length:Int)=n/\(hi.length:Int)=n/\rows.length<=256)&&vB lo hi&&rows.all (A.valid n)):=hr.symm;have hf:¬(1<=n/\n<=256/\(lo.length:Int)=n/\(hi.length:Int)=n/\rows.length<=256)->r=false:=λh=>by grind
 have ht:(1<=n/\n<=256/\(lo.length:Int)=n/\(hi.length:Int)=n/\rows.length<=256)->r=(lo.all R.ok&&(hi.all R.ok&&cB lo hi)&&rows.all (A.valid n)):=λh=>by rw[hr0,decide_eq_true h,yW,Xg oM]
 obtain⟨C,hC⟩:=ex cB;have hC0:C [] []=true:=by rw[<-hC];rfl
 have hC1:∀ a l b m,C (a::l) (b::m)=(decide (uV a.q b.q<=0)&&C l m):=λ_ _ _ _=>by rw[<-hC];rfl
 rw[hC] at ht;generalize lo.all R.ok=la at *;generalize hi.all R.ok=ha at *;generalize rows.all (A.valid n)=ra at *;clear hr hr0 hC hlo hhi hg;cbv;refine zQ (λe1=>?_) (λe1=>?_)
 ·cbv
  (refine rC ?_;cbv)
  exact zK (hf okQ)
 cbv;refine zQ (λe2=>?_) (λe2=>?_)
 ·cbv
  (refine rC ?_;cbv)
  exact zK (hf okQ)
 cbv;refine zQ (λe3=>?_) (λe3=>?_)
 rotate_left
 ·cbv
  (refine rC ?_;cbv)
  exact zK (hf okQ)
 cbv;refine zQ (λe4=>?_) (λe4=>?_)
 rotate_left
 ·cbv
  (refine rC ?_;cbv)
  exact zK (hf okQ)
 cbv;refine zF (λe5=>?_) (λe5=>?_)
 ·cbv
  (refine rC ?_;cbv)
  exact zK (hf okQ)
 have hv:=ht okQ;have hn1:1<=n:=okQ;have hn2:n<=256:=okQ;have hn3:(lo.length:Int)=n:=okQ;have hn4:(hi.length:Int)=n:=okQ;clear ht hf e1 e2 e3 e4 e5;cbv;refine cA cl ?_;cbv;refine yB (λe=>?_) (λe=>?_)
 rotate_left
 ·cbv
  (refine rC ?_;cbv)
  exact zK (by grind)
 rw[e,yW] at hv;cbv;refine cA ch ?_;cbv;refine yB (λe=>?_) (λe=>?_)
 rotate_left
 ·cbv
  (refine rC ?_;cbv)
  exact zK (by grind)
 rw[e,yW] at hv;cbv;refine cA cr ?_;cbv;refine zO (λe=>?_) (λe=>?_)
 rotate_left
 ·cbv
  (refine rC ?_;cbv)
  exact zK (by grind)
 rw[e,Bool.and_true] at hv;cbv;refine z7 (σ:=Nat) (λi=>⟨[(1,iV n),(2,.ptr 2 0),(5,iV i)],[(2,.box [rlv lo,rlv hi,alv rows])]⟩) (λi=>i<=lo.length/\r=C (lo.drop i) (hi.drop i)) (λi=>lo.length-i) 0 ⟨by omega,hv⟩ (wkZ) ?_;clear hv;intro i hi';obtain⟨h1,h2⟩:=hi';cbv;refine zF (λh5=>?_) (λh5=>?_)
 ·have hlt:i<lo.length:=okQ;obtain⟨a,ha⟩:=zS hlt;obtain⟨b,hb⟩:=zS (l:=hi) (i:=i) okQ;have cv:=cc a b (z3 ha) (z3 hb);rw[zY ha,zY hb,hC1] at h2;generalize uV a.q b.q=cq at *;generalize hrest:C (lo.drop (i+1)) (hi.drop (i+1))=rest at *;cbv;refine zM 10 (by cbv) ?_;cbv;refine yL ha gT bV ?_;cbv;refine yL hb gT bV ?_;cbv;refine cA cv ?_;cbv;refine zF (λe=>?_) (λe=>?_)
  ·cbv
   (refine rC ?_;cbv)
   exact zK (by grind)
  {cbv;exact⟨zD om om,i+1,⟨om,by grind⟩,om,wkZ⟩}
 ·have he:i=lo.length:=okQ;have he2:i=hi.length:=okQ;rw[show lo.drop i=[] by grind,show hi.drop i=[] by grind,hC0] at h2;cbv
  (refine rC ?_;cbv)
  exact yV h2
def iA (q:Qry)(hq:q.sz (2^31)):zC 34 [qv q] (zL q.valid):=by
 refine sF Tryz.f34 ?_;have c1:=R3 q.g (hq.g.mono (by decide));have c2:=Nb q.r q.g.n hq.r;have c3:=oG q.g (hq.g.mono (by decide));have c4:=FE q.goal q.g.vars (hq.goal.mono (by decide));have hr:q.valid=(q.g.valid&&q.r.valid q.g.n&&q.goal.valid q.g.vars):=rfl;generalize q.valid=r at *;generalize q.g.valid=b1 at *;generalize q.r.valid q.g.n=b2 at *;generalize q.goal.valid q.g.vars=b3 at *;generalize q.g.vars=w at *;obtain⟨⟨n,us,os⟩,⟨lo,hi,rows⟩,⟨ts,x1,x2,x3⟩⟩:=q;cbv;refine zM 19 (by cbv) ?_;cbv;refine dA c1 ?_;cbv;refine yB (λe=>?_) (λe=>?_)
 rotate_left
 ·cbv
  (refine rC ?_;cbv)
  exact zK (by grind)
 rw[e,yW] at hr;cbv;refine dA c2 ?_;cbv;refine yB (λe2=>?_) (λe2=>?_)
 rotate_left
 ·cbv
  (refine rC ?_;cbv)
  exact zK (by grind)
 rw[e2,yW] at hr;cbv;refine dA c3 ?_;cbv;refine xW (by exact⟨okA,zB (if_pos e),trivial⟩) c4 rfl ?_;cbv
 (refine rC ?_;cbv)
 exact zX hr.symm
def J6 (q:Qry)(d:Dec)(hd:d.x.sz (2^32)):zC 163 [qv q,dv d] (zL (d.fits q)):=by
 refine sF Tryz.f163 ?_;have cz:=s69 d.x R0 hd ⟨by decide,by decide⟩;have cv:=FI d.x hd;have hr:d.fits q=if d.k=1\/d.k=2 then decide (0<=d.i/\d.i<q.g.us.length)&&decide (d.x=R0) else if d.k=3\/d.k=4 then decide (0<=d.i/\d.i<q.g.n)&&d.x.ok else false:=rfl
 generalize d.fits q=r at *;generalize decide (d.x=R0)=z at *;generalize d.x.ok=ok at *;obtain⟨⟨n,us,os⟩,⟨lo,hi,rows⟩,⟨ts,c1,c2,c3⟩⟩:=q;obtain⟨k,i,x1,x2,x3⟩:=d;simp only at hr;have u1:∀ (hk:k=1\/k=2),(0<=i->i<us.length->r=z)/\(¬(0<=i/\i<us.length)->r=false):=λhk=>by grind
 have u2:∀ (hk:k=3\/k=4),(0<=i->i<n->r=ok)/\(¬(0<=i/\i<n)->r=false):=λhk=>by grind
 have u3:¬(k=1\/k=2\/k=3\/k=4)->r=false:=λhk=>by grind
 clear hr;cbv;have hk:(k=1\/k=2)\/(k=3\/k=4)\/(k<=0\/5<=k):=by omega
 rcases hk with hk|hk|hk
 ·obtain⟨v1,v2⟩:=u1 hk;clear u1 u2 u3;refine kU (σ:=Unit) (λ_=>⟨[(2,.ptr 2 0),(3,.ptr 3 0),(6,iV k),(7,.tt)],[(2,.box [iV n,alv us,alv os,rlv lo,rlv hi,alv rows,tsv ts,zL c1,nat c2,nat c3]),(3,.box [iV k,iV i,zL x1,nat x2,nat x3])]⟩) (λ_=>True) (λe=>?_) (λe=>?_) (λ_ _=>?_);{cbv;exact⟨(),trivial,.le (by cbv;exact⟨lR,lR,lR,⟨by simp only[Le,decide_eq_true_eq];exact e⟩,trivial⟩) okZ rfl⟩};{cbv;exact⟨(),trivial,.le (by cbv;exact⟨lR,lR,lR,⟨by simp only[Le,decide_eq_true_eq];exact om⟩,trivial⟩) okZ rfl⟩}
  ·cbv;refine zQ (λe1=>?_) (λe1=>?_)
   ·cbv;refine zQ (λe2=>?_) (λe2=>?_)
    ·cbv;refine cA cz ?_;cbv
     (refine rC ?_;cbv)
     exact zX (by rw[v1 okQ okQ])
    ·cbv
     (refine rC ?_;cbv)
     exact zK (v2 okQ)
   ·cbv
    (refine rC ?_;cbv)
    exact zK (v2 okQ)
 ·obtain⟨v1,v2⟩:=u2 hk;clear u1 u2 u3;refine yE (by exact om) ?_;cbv;refine yE (by exact om) ?_;cbv;refine kU (σ:=Unit) (λ_=>⟨[(2,.ptr 2 0),(3,.ptr 3 0),(28,.tt)],[(2,.box [iV n,alv us,alv os,rlv lo,rlv hi,alv rows,tsv ts,zL c1,nat c2,nat c3]),(3,.box [iV k,iV i,zL x1,nat x2,nat x3])]⟩) (λ_=>True) (λe=>?_) (λe=>?_) (λ_ _=>?_);{cbv;exact⟨(),trivial,.le (by cbv;exact⟨lR,lR,⟨by simp only[Le,decide_eq_true_eq];exact e⟩,trivial⟩) okZ rfl⟩};{cbv;exact⟨(),trivial,.le (by cbv;exact⟨lR,lR,⟨by simp only[Le,decide_eq_true_eq];exact om⟩,trivial⟩) okZ rfl⟩}
  ·cbv;refine zQ (λe1=>?_) (λe1=>?_)
   ·cbv;refine zQ (λe2=>?_) (λe2=>?_)
    ·cbv;refine cA cv ?_;cbv
     (refine rC ?_;cbv)
     exact zX (by rw[v1 okQ okQ])
    ·cbv
     (refine rC ?_;cbv)
     exact zK (v2 okQ)
   ·cbv
    (refine rC ?_;cbv)
    exact zK (v2 okQ)
 ·have hr:=u3 oM;refine yE (by exact om) ?_;cbv;refine yE (by exact om) ?_;cbv;refine yE (by exact om) ?_;cbv;refine yE (by exact om) ?_;cbv
  (refine rC ?_;cbv)
  exact zK hr
def Gp (q:Qry)(d:Dec)(hq:q.sz (2^31))(hd:d.x.sz (2^32)):zC 105 [qv q,dv d] (zL (q.valid&&d.fits q)):=by
 refine sF Tryz.f105 ?_;have c1:=iA q hq;have c2:=J6 q d hd;generalize hr:(q.valid&&d.fits q)=r;generalize q.valid=b1 at *;generalize d.fits q=b2 at *;obtain⟨⟨n,us,os⟩,⟨lo,hi,rows⟩,⟨ts,x1,x2,x3⟩⟩:=q;obtain⟨k,i,y1,y2,y3⟩:=d;cbv;refine cA c1 ?_;cbv;refine yB (λe=>?_) (λe=>?_)
 ·cbv;refine cA c2 ?_;cbv
  (refine rC ?_;cbv)
  exact zX (by grind)
 ·cbv
  (refine rC ?_;cbv)
  exact zK (by grind)
def cI (x y:Int):Int:=if x<y then -1 else if y<x then 1 else 0
def orI (x y:Int):Int:=if x≠0 then x else y
def dF (a b:Row):Int:=orI (cI a.k b.k) (orI (cI a.i b.i) (orI (cI a.lo b.lo) (cI a.hi b.hi)))
def C9 {b:Bool}(h:b=true):LeS (.nbool (λ_=>b)) .ff:=⟨by simp[Le,h]⟩
def Nd (x:Int):zC 191 [iV x] .ff:=by
 refine sF Tryz.f191 ?_;cbv
 (refine rC ?_;cbv)
 exact C9 (by simp)
def Ko (x y:Int):zC 144 [iV x,iV y] (iV (cI x y)):=by
 refine sF Tryz.f144 ?_;have cx:=Nd x;have cy:=Nd y;have h1:x<y->cI x y=-1:=λh=>if_pos h;have h2:¬x<y->y<x->cI x y=1:=λh g=>by unfold cI;omega
 have h3:¬x<y->¬y<x->cI x y=0:=λh g=>by unfold cI;omega
 generalize cI x y=c at *;cbv;refine cA cx ?_;cbv;refine cA cy ?_;cbv;refine zF (λh=>?_) (λh=>?_)
 ·cbv
  (refine rC ?_;cbv)
  exact zB (h1 h).symm
 ·cbv;refine zF (λg=>?_) (λg=>?_)
  ·cbv
   (refine rC ?_;cbv)
   exact zB (h2 h g).symm
  ·cbv
   (refine rC ?_;cbv)
   exact zB (h3 h g).symm
def ST (x:Int):List PV:=[iV x]
def FL (a:Int):yT qO (ST a)=true:=rfl
def CQ (a:Int):(ST a).length=1:=rfl
def orL:List Int->Int
 |[]=>0| x::r=>orI x (orL r)
def sOr (l:List Int)(hl:l.length<2^40):zC 289 [.sl (λ_=>enc ST l)] (iV (orL l)):=by
 refine sF Tryz.f289 ?_;generalize hr:orL l=r;cbv;refine z7 (σ:=Nat) (λi=>⟨[(3,iV 0),(6,.sl (λ_=>enc ST l)),(7,iV l.length),(8,iV i)],[]⟩)
  (λi=>i<=l.length/\r=orL (l.drop i)) (λi=>l.length-i) 0 ⟨om,hr.symm⟩ (.le ?_ ?_ rfl) ?_
 {cbv;exact⟨lR,lR,zB (by (try dsimp only [zV] at *);rw[zA]),lR,trivial⟩};{cbv};clear hr;intro i hs;obtain⟨h1,h2⟩:=hs;cbv;refine zF (λh5=>?_) (λh5=>?_)
 ·(cbv;refine xQ (l:=l) i (by (grind) <;> (try simp only[zH] at *) <;> omega) om FL CQ (λt ht=>?_);rw[zY ht,show orL (t::l.drop (i+1))=orI t (orL (l.drop (i+1))) from rfl] at h2;have h3:t≠0->r=t:=λh=>by rw[h2];exact if_pos h);have h4:t=0->r=orL (l.drop (i+1)):=λh=>by rw[h2];exact if_neg (λg=>g h)
  clear h2;cbv;refine zF (λh6=>?_) (λh6=>?_);{have h4':=h4 h6;cbv;refine⟨zD om om,i+1,⟨om,h4'⟩,om,.le ?_ ?_ rfl⟩;{cbv;exact⟨lR,lR,lR,zB om,trivial⟩};{cbv}}
  ·have h3':=h3 h6;cbv
   (refine rC ?_;cbv)
   exact zB h3'.symm
 ·have:i=l.length:=om;rw[this,vE] at h2;cbv
  (refine rC ?_;cbv)
  exact zB h2.symm
def Tt (a b:Row):zC 271 [rwv a,rwv b] (iV (dF a b)):=by
 refine sF Tryz.f271 ?_;have c1:=Ko a.k b.k;have c2:=Ko a.i b.i;have c3:=Ko a.lo b.lo;have c4:=Ko a.hi b.hi;have c5:=sOr [cI a.k b.k,cI a.i b.i,cI a.lo b.lo,cI a.hi b.hi] (by simp);have e:orL [cI a.k b.k,cI a.i b.i,cI a.lo b.lo,cI a.hi b.hi]=dF a b:=by
  (unfold dF orL orL orL orL orL;have:∀ x,orI x 0=x:=λx=>by grind [orI]);rw[this]
 rw[e] at c5;generalize dF a b=r at *;generalize cI a.k b.k=x1 at *;generalize cI a.i b.i=x2 at *;generalize cI a.lo b.lo=x3 at *;generalize cI a.hi b.hi=x4 at *;cbv;refine zM 22 (by cbv) ?_;cbv;refine dA c1 ?_;cbv;refine dA c2 ?_;cbv;refine dA c3 ?_;cbv;refine dA c4 ?_;cbv;refine xW (by exact⟨zR rfl,trivial⟩) c5 rfl ?_;cbv;exact rA
def qH:Option Row->List Mult->Bool
 |_,[]=>true
 |p,m::r=>decide (0<yA m.c.q)&&(m.c.ok&&((match p with
  |none=>true| some w=>decide (dF w m.row<0))&&qH (some m.row) r))
def Tu (l:List Mult)(hl:Msz (2^36) l):zC 229 [mlv l] (zL (qH none l)):=by
 refine sF Tryz.f229 ?_;have hll:=hl.len;have hls:=hl.sz;generalize hr:qH none l=r;cbv;refine z7 (σ:=Nat×Option Row) (λs=>⟨[(0,mlv l),(5,mlv l),(6,iV l.length),(7,iV s.1)],[]⟩)
  (λs=>s.1<=l.length/\r=qH s.2 (l.drop s.1)/\(s.1=0->s.2=none)/\(s.1≠0->∃ u,l[s.1-1]?=some u/\s.2=some u.row)) (λs=>l.length-s.1)
  (0,none) ⟨om,hr.symm,λ_=>rfl,λh=>absurd rfl h⟩ (.le ?_ ?_ rfl) ?_
 {cbv;exact⟨lR,lR,zB (by (try dsimp only [zV] at *);rw[zA]),lR,trivial⟩};{cbv};clear hr;intro s hs;obtain⟨h1,hv,h3,h4⟩:=hs;generalize s.1=i at *
 generalize s.2=p at *;cbv;refine zF (λh5=>?_) (λh5=>?_)
 ·(cbv;refine xQ (l:=l) i (by (grind) <;> (try simp only[zH] at *) <;> omega) om vA xS (λt ht=>?_);have htz:=hls t (z3 ht);have cs:=s86 t.c (by have:=htz.n;omega);have cv:=Hd t.c htz;have hd:l.drop i=t::l.drop (i+1):=zY ht;have hvn:(¬0<yA t.c.q->r=false):=λh=>by grind [qH]);have hvo:t.c.ok=false->r=false:=λh=>by grind [qH]
  have hv0:0<yA t.c.q->t.c.ok=true->p=none->r=qH (some t.row) (l.drop (i+1)):=λh g e=>by rw[hv,hd,e];show (decide (0<yA t.c.q)&&(t.c.ok&&(true&&qH (some t.row) (l.drop (i+1)))))=_;grind
  (have hv1:∀ w,0<yA t.c.q->t.c.ok=true->p=some w->r=(decide (dF w t.row<0)&&qH (some t.row) (l.drop (i+1))):=λw h g e=>by grind [qH]);clear hv
  generalize yA t.c.q=sg at *;generalize t.c.ok=ok at *;generalize hrest:qH (some t.row) (l.drop (i+1))=rest at *;cbv;refine zM 26 (by cbv) ?_;cbv;refine dA cs ?_;cbv;refine zQ (λe1=>?_) (λe1=>?_)
  ·cbv
   (refine rC ?_;cbv)
   exact zK (hvn oM)
  cbv;refine dA cv ?_;cbv;refine yB (λe2=>?_) (λe2=>?_)
  rotate_left
  ·cbv
   (refine rC ?_;cbv)
   exact zK (hvo e2)
  cbv;refine zQ (λe3=>?_) (λe3=>?_)
  ·(cbv;obtain⟨u,hu,hu2⟩:=h4 om;have cc:=Tt u.row t.row;have hvv:=hv1 u.row oM e2 hu2;generalize dF u.row t.row=cr at *;refine⟨zD om om,xQ (l:=l) (i-1) om om vA xS (λu' hu'=>?_)⟩;obtain rfl:u'=u:=by grind);cbv
   refine dA cc ?_;cbv;refine zF (λe4=>?_) (λe4=>?_)
   ·cbv
    (refine rC ?_;cbv)
    exact zK (by grind)
   {rw[decide_eq_true (show cr<0 by omega),yW] at hvv;cbv;exact⟨zD om om,(i+1,some t.row),⟨om,hvv.trans hrest.symm,λh=>absurd h (by simp),λ_=>⟨_,ht,rfl⟩⟩,om,.le (by cbv;exact⟨lR,lR,lR,zB om,trivial⟩) (by cbv) rfl⟩}
  {cbv;have hvv:=hv0 oM e2 (h3 om);exact⟨zD om om,(i+1,some t.row),⟨om,hvv.trans hrest.symm,λh=>absurd h (by simp),λ_=>⟨_,ht,rfl⟩⟩,om,.le (by cbv;exact⟨lR,lR,lR,zB om,trivial⟩) (by cbv) rfl⟩}
 ·have:i=l.length:=om;rw[this,vE] at hv;have hv':r=true:=hv;cbv
  (refine rC ?_;cbv)
  exact yV hv'
def F.zero:F:=⟨[],0⟩
theorem uU:fA F.zero=⟨[],R0⟩:=by show (⟨[],zI 0⟩:A)=_;rw[uJ]
def fits_one:Fits 1 1:=Wu (z:=1) (by decide) (by decide)
def tF (v:Int):(F.var v).fit 1:=⟨⟨by show 1<_;decide,λt ht=>by
 have:t=(v,1):=by grind [F.var]
 rw[this];exact fits_one⟩,uL (by decide)⟩
def cO {k:Nat}{q:Rat}(h:Fits k q):(F.num q).fit k:=⟨⟨by show 0<_;decide,λt ht=>absurd ht (by simp[F.num])⟩,h⟩
def VZ {f g:F}{c:Rat}{k m:Nat}(hf:f.fit k)(hg:g.fit k)(hc:Fits m c)(hl:f.ts.length+g.ts.length<2^38):(f.merge g c).fit (2*k+m+1) :=
 ⟨⟨xP (aN _ _ _) hl,n7 hc hf.t.fit hg.t.fit⟩,(kC hf.c (y8 hg.c hc)).mono oM⟩
def wK:Fits 1 (-1):=qF fits_one
def UK {f g:F}{k:Nat}(hf:f.fit k)(hg:g.fit k)(hl:f.ts.length+g.ts.length<2^38):(f.sub g).fit (2*k+2):=(VZ hf hg wK hl).mono oM
def nT {f:F}{c:Rat}{k m:Nat}(hf:f.fit k)(hc:Fits m c)(hk:1<=k):(f.scale c).fit (2*k+m+1):=VZ ⟨⟨by grind,λt ht=>absurd ht (by simp)⟩,uL hk⟩ hf hc (by show 0+_<_;have:=hf.t.len;omega)
def Sa (f g:F):(f.sub g).ts.length<=f.ts.length+g.ts.length:=aN _ _ _
def VI (f:F)(c:Rat):(f.scale c).ts.length<=f.ts.length:=vL (aN _ _ _) (by simp)
def Scp.fIn (s:Scp) (r:Row):Option F :=
 if r.plain=true/\0<=r.i then
  if r.k=1 then s.q.r.lo[r.i.toNat]?.map λx=>(F.var r.i).sub (F.num x.q)
  else if r.k=2 then s.q.r.hi[r.i.toNat]?.map λx=>(F.num x.q).sub (F.var r.i)
  else if r.k=3 then s.q.r.rows[r.i.toNat]?.map λf=>f.f.add F.zero
  else if r.k=4 then match s.path[r.i.toNat]? with
   |some d=>if d.fits s.q=true then (if d.k=3 then some ((F.var d.i).sub (F.num d.x.q)) else if d.k=4 then some (((F.var d.i).sub (F.num d.x.q)).scale (-1)) else none) else none| none=>none
  else none
 else none
def M4 (s:Scp)(r:Row)(hs:s.sz (2^28)):zC 272 [sv s,rwv r] (.tup [fv ((s.fIn r).getD F.zero),zL ((s.fIn r).isSome)]):=by
 refine sF Tryz.f272 ?_;have cpl:=Kl r;have hlo:=hs.q.r.lo.sz;have hhi:=hs.q.r.hi.sz;have hrw:=hs.q.r.rows.sz;have hpa:=hs.path.sz;have hrl:=hs.q.r.rows.len;have hft:∀ d,d∈s.path->zC 176 [qv s.q,dv d] (zL (d.fits s.q)):=λd hd=>XC s.q d ((hpa d hd).mono (by decide));have hno:¬(r.plain=true/\0<=r.i)->s.fIn r=none:=λh=>if_neg h;have hyes:r.plain=true->0<=r.i->s.fIn r=if r.k=1 then s.q.r.lo[r.i.toNat]?.map λx=>(F.var r.i).sub (F.num x.q)
  else if r.k=2 then s.q.r.hi[r.i.toNat]?.map λx=>(F.num x.q).sub (F.var r.i)
  else if r.k=3 then s.q.r.rows[r.i.toNat]?.map λf=>f.f.add F.zero
  else if r.k=4 then match s.path[r.i.toNat]? with
   |some d=>if d.fits s.q=true then (if d.k=3 then some ((F.var d.i).sub (F.num d.x.q)) else if d.k=4 then some (((F.var d.i).sub (F.num d.x.q)).scale (-1)) else none) else none| none=>none
  else none:=λh1 h2=>if_pos ⟨h1,h2⟩
 obtain⟨o,ho⟩:∃ o,o=s.fIn r:=⟨_,rfl⟩;rw[<-ho] at hno hyes ⊢;obtain⟨W,hW⟩:∃ W,W=fA (o.getD F.zero):=⟨_,rfl⟩;obtain⟨b,hb⟩:∃ b,b=o.isSome:=⟨_,rfl⟩;rw[show fv (o.getD F.zero)=av W by rw[hW],<-hb];have fin2:∀ f,o=some f->W=fA f/\b=true:=λf h=>by grind
 have fin1:o=none->W=⟨[],R0⟩/\b=false:=λh=>by grind [uU]
 clear hW hb ho hs;obtain⟨wt,w1,w2,w3⟩:=W;have fin3:o=none->wt=[]/\w1=false/\w2=[]/\w3=[]/\b=false:=λh=>by grind
 clear fin1;generalize r.plain=pl at *;obtain⟨⟨⟨gn,us,os⟩,⟨lo,hi,rows⟩,⟨ts,c1,c2,c3⟩⟩,path,lems⟩:=s;obtain⟨k,i,rlo,rhi⟩:=r;simp only at hlo hhi hrw hpa hft hno hyes hrl;cbv;refine qV 7 (by cbv) (by cbv) ?_;cbv;refine cA cpl ?_;cbv;refine yB (λe1=>?_) (λe1=>?_)
 rotate_left
 {subst e1;cbv;obtain⟨g0,g1,g2,g3,g4⟩:=fin3 (hno (λh=>absurd h.1 (by decide)));subst g0 g1 g2 g3 g4;exact rA};subst e1;cbv;refine zF (λe2=>?_) (λe2=>?_);{cbv;obtain⟨g0,g1,g2,g3,g4⟩:=fin3 (hno (λh=>absurd h.2 (by grind)));subst g0 g1 g2 g3 g4;exact rA};cbv;have hi0:0<=i:=by exact om
 have hit:((i.toNat:Nat):Int)=i:=by omega
 have ho:=hyes rfl hi0;clear hno hyes e2;have hk:k=1\/k=2\/k=3\/k=4\/(k<=0\/5<=k):=by omega
 rcases hk with rfl|rfl|rfl|rfl|hk
 ·refine wP (by simp) ?_;cbv;refine zF (λe3=>?_) (λe3=>?_)
  ·(cbv;rw[zA] at e3;obtain⟨x,hx⟩:∃ x,lo[i.toNat]?=some x:=zS (by exact om);have hxs:=hlo x (z3 hx);have cv:=US i;have cn:=ZJ x (hxs.mono (by decide));have fx:Fits (2^28) x.q:=hxs.fits (by decide);have cs:=sO (fA (F.var i)) (fA (F.num x.q)) ((tF i).fA.mono (by decide)) ((cO fx).fA.mono (by decide));rw[qG,qG] at cs;have ho2:=fin2 ((F.var i).sub (F.num x.q)) (by grind);dsimp only [fv] at cs cv cn;generalize (F.var i).sub (F.num x.q)=V at *;generalize fA V=U at *;generalize fA (F.var i)=V1 at *;generalize fA (F.num x.q)=V2 at *;obtain⟨v1t,v11,v12,v13⟩:=V1;obtain⟨v2t,v21,v22,v23⟩:=V2;obtain⟨ho3,hb⟩:=ho2;subst ho3 hb;obtain⟨x1,x2,x3⟩:=x;refine zM 9 (by cbv) ?_;cbv;refine dA cv ?_;cbv;refine xQ (l:=lo) i.toNat om om gT bV (λx' hx'=>?_);obtain rfl:x'=⟨x1,x2,x3⟩:=by rw[hx] at hx';exact (kF hx').symm);cbv
   refine dA cn ?_;cbv;refine dA cs ?_;cbv;exact rA
  {cbv;refine yC (by simp) ?_;cbv;refine yC (by simp) ?_;cbv;refine zM 21 (by cbv) ?_;cbv;refine yC (by simp) ?_;cbv;obtain⟨g0,g1,g2,g3,g4⟩:=fin3 (by rw[ho,if_pos rfl,tD (by rw[zA] at e3;exact om)];rfl);subst g0 g1 g2 g3 g4;exact rA}
 ·refine yC (by simp) ?_;cbv;refine wP (by simp) ?_;cbv;refine zF (λe3=>?_) (λe3=>?_)
  ·(cbv;rw[zA] at e3;obtain⟨x,hx⟩:∃ x,hi[i.toNat]?=some x:=zS (by exact om);have hxs:=hhi x (z3 hx);have cv:=US i;have cn:=ZJ x (hxs.mono (by decide));have fx:Fits (2^28) x.q:=hxs.fits (by decide);have cs:=sO (fA (F.num x.q)) (fA (F.var i)) ((cO fx).fA.mono (by decide)) ((tF i).fA.mono (by decide));rw[qG,qG] at cs;have ho2:=fin2 ((F.num x.q).sub (F.var i)) (by grind);dsimp only [fv] at cs cv cn;generalize (F.num x.q).sub (F.var i)=V at *;generalize fA V=U at *;generalize fA (F.var i)=V1 at *;generalize fA (F.num x.q)=V2 at *;obtain⟨v1t,v11,v12,v13⟩:=V1;obtain⟨v2t,v21,v22,v23⟩:=V2;obtain⟨ho3,hb⟩:=ho2;subst ho3 hb;obtain⟨x1,x2,x3⟩:=x;refine xQ (l:=hi) i.toNat om om gT bV (λx' hx'=>?_);obtain rfl:x'=⟨x1,x2,x3⟩:=by grind);cbv
   refine cA cn ?_;cbv;refine cA cv ?_;cbv;refine cA cs ?_;cbv;exact rA
  {cbv;refine yC (by simp) ?_;cbv;refine zM 21 (by cbv) ?_;cbv;refine yC (by simp) ?_;cbv;obtain⟨g0,g1,g2,g3,g4⟩:=fin3 (by rw[ho,if_neg (by decide),if_pos rfl,tD (by rw[zA] at e3;exact om)];rfl);subst g0 g1 g2 g3 g4;exact rA}
 ·refine yC (by simp) ?_;cbv;refine yC (by simp) ?_;cbv;refine wP (by simp) ?_;cbv;refine zF (λe3=>?_) (λe3=>?_)
  ·(cbv;rw[zA] at e3;obtain⟨x,hx⟩:∃ x,rows[i.toNat]?=some x:=zS (by exact om);have hxs:=hrw x (z3 hx);have cs:=J7 x ⟨[],R0⟩ (hxs.mono (by decide)) ⟨⟨by decide,λ_ h=>absurd h (by simp)⟩,⟨by decide,by decide⟩⟩;have e0:A.f ⟨[],R0⟩=F.zero:=by rw[<-uU,qG]);rw[e0] at cs
   (have ho2:=fin2 (x.f.add F.zero) (by grind);dsimp only [fv] at cs;generalize x.f.add F.zero=V at *;generalize fA V=U at *;obtain⟨ho3,hb⟩:=ho2;subst ho3 hb;obtain⟨xt,x1,x2,x3⟩:=x;refine xQ (l:=rows) i.toNat om om j7 cJ (λx' hx'=>?_);obtain rfl:x'=⟨xt,x1,x2,x3⟩:=by grind);cbv
   refine yJ rfl okA cs rfl ?_;cbv;exact rA
  {cbv;refine zM 21 (by cbv) ?_;cbv;refine yC (by simp) ?_;cbv;obtain⟨g0,g1,g2,g3,g4⟩:=fin3 (by rw[ho,if_neg (by decide),if_neg (by decide),if_pos rfl,tD (by rw[zA] at e3;exact om)];rfl);subst g0 g1 g2 g3 g4;exact rA}
 ·refine yC (by simp) ?_;cbv;refine yC (by simp) ?_;cbv;refine yC (by simp) ?_;cbv;refine zM 21 (by cbv) ?_;cbv;refine wP (by simp) ?_;cbv;refine zQ (λe3=>?_) (λe3=>?_)
  ·(cbv;rw[zA] at e3;obtain⟨d,hd⟩:∃ d,path[i.toNat]?=some d:=zS (by exact om);have hds:=hpa d (z3 hd);have cf:=hft d (z3 hd);have idx:∀ {K:List PV->Prop},K (dc d)->IdxOk 5 (λ_=>enc dc path) (λ_=>i) K:=λhK=>xQ (l:=path) i.toNat hit.symm (by exact om) uF qP (λm' hm'=>by grind);have cv:=US d.i;have cn:=ZJ d.x (hds.mono (by decide));have fx:Fits (2^28) d.x.q:=hds.fits (by decide);have cs:=sO (fA (F.var d.i)) (fA (F.num d.x.q)) ((tF d.i).fA.mono (by decide)) ((cO fx).fA.mono (by decide));rw[qG,qG] at cs;have cm:=XB (fA ((F.var d.i).sub (F.num d.x.q))) ((UK ((tF d.i).mono (m:=2^28) (by decide)) (cO fx) (by show 1+0<2^38;decide)).fA.mono (by decide));rw[qG] at cm;have ho':o=if d.fits ⟨⟨gn,us,os⟩,⟨lo,hi,rows⟩,⟨ts,c1,c2,c3⟩⟩=true then (if d.k=3 then some ((F.var d.i).sub (F.num d.x.q)) else if d.k=4 then some (((F.var d.i).sub (F.num d.x.q)).scale (-1)) else none) else none:=by rw[ho,if_neg (by decide),if_neg (by decide),if_neg (by decide),if_pos rfl,hd]);clear ho
   generalize d.fits ⟨⟨gn,us,os⟩,⟨lo,hi,rows⟩,⟨ts,c1,c2,c3⟩⟩=ft at *;dsimp only [fv] at cs cv cn cm;generalize hV:(F.var d.i).sub (F.num d.x.q)=V at *;generalize V.scale (-1)=V' at *;have fA1:=fin2 V;have fA2:=fin2 V';generalize fA V=U at *;generalize fA V'=U' at *;generalize fA (F.var d.i)=V1 at *;generalize fA (F.num d.x.q)=V2 at *;obtain⟨ut,u1,u2,u3⟩:=U;obtain⟨ut',u1',u2',u3'⟩:=U';obtain⟨v1t,v11,v12,v13⟩:=V1;obtain⟨v2t,v21,v22,v23⟩:=V2;obtain⟨dk,di,d1,d2,d3⟩:=d;simp only at ho';refine idx ?_;cbv;refine dA cf ?_;cbv;refine zO (λe4=>?_) (λe4=>?_);{subst e4;cbv;refine idx ?_;cbv;refine qV 8 (by cbv) (by cbv) ?_;cbv;refine dA cv ?_;cbv;refine dA cn ?_;cbv;refine dA cs ?_;cbv;refine zF (λe5=>?_) (λe5=>?_);{cbv;obtain⟨g1,g2⟩:=fA1 (by rw[ho',if_pos rfl,if_pos e5]);cases g1;subst g2;exact rA};{cbv;refine zF (λe6=>?_) (λe6=>?_);{cbv;obtain⟨g1,g2⟩:=fA2 (by rw[ho',if_pos rfl,if_neg e5,if_pos e6]);cases g1;subst g2;refine cA cm ?_;cbv;exact rA};{cbv;obtain⟨g0,g1,g2,g3,g4⟩:=fin3 (by rw[ho',if_pos rfl,if_neg e5,if_neg e6]);subst g0 g1 g2 g3 g4;exact rA}}};{subst e4;cbv;obtain⟨g0,g1,g2,g3,g4⟩:=fin3 (by rw[ho',if_neg (by decide)]);subst g0 g1 g2 g3 g4;exact rA}
  {cbv;obtain⟨g0,g1,g2,g3,g4⟩:=fin3 (by rw[ho,if_neg (by decide),if_neg (by decide),if_neg (by decide),if_pos rfl,tD (by rw[zA] at e3;exact om)]);subst g0 g1 g2 g3 g4;exact rA}
 {refine yC (by grind) ?_;cbv;refine yC (by grind) ?_;cbv;refine yC (by grind) ?_;cbv;refine zM 21 (by cbv) ?_;cbv;refine yC (by grind) ?_;cbv;obtain⟨g0,g1,g2,g3,g4⟩:=fin3 (by grind);subst g0 g1 g2 g3 g4;exact rA}
end Go.Proofs.YtaeaffgjdcigoaaGreat
