/- A part of the proof: RuC, RuD, RuE, RuF, RuG, RuH, RuI, SpV, UtB. -/
import Derived.Test.YtboocdbmnfjomaaGreatR30
import Derived.Test.YtboocdbmnfjomaaGreatR27
import Derived.Test.YtboocdbmnfjomaaGreatR25
import Derived.Test.YtboocdbmnfjomaaGreatR26
import Derived.Test.YtboocdbmnfjomaaGreatR29
import Derived.Test.YtboocdbmnfjomaaGreatR22
set_option linter.all false
namespace Go.Proofs.YtboocdbmnfjomaaGreat
open Go
set_option maxRecDepth 100000
set_option maxHeartbeats 4000000
def PH {vars:Int}:∀ {ts:List (Int×R)} {p:Int},vT vars p ts=true->∀ t,t∈tq ts->0<=t.1/\t.1<vars
 |[],p,_,t,ht=>absurd ht (by simp[tq])| x::r,p,h,t,ht=>by unfold vT at h;simp only[yS,decide_eq_true_eq] at h;rcases yR.1 (show t∈(x.1,x.2.q)::tq r from ht) with rfl|ht;{omega};{exact PH h.2 t ht}
theorem A.valid_wf {a:A}{vars:Int}(h:a.valid vars=true):a.f.wf vars:=⟨(fR h).2,λt ht=>by unfold A.valid at h;rw[yS] at h;exact PH h.1 t ht⟩
def N0 {q:Qry}(h:q.valid=true){p:A}(hp:p∈q.g.us):p.f.wf 2000:=by have hv:=Qry.vok_of h;unfold Qry.valid Grp.valid Reg.valid at h;simp only[yS,decide_eq_true_eq,gH] at h;obtain⟨⟨⟨⟨h1,h2⟩,h3⟩,⟨h4,h5⟩,h6⟩,h7⟩:=h;obtain⟨j,hj,hh⟩:=UW h2 hp;exact (A.valid_wf hh).mono oM
def Pc {m:Lem}{p:F}{n:Int}(hp:p.wf n):(m.form p).wf n:=by unfold Lem.form;split;{exact (F.wf.merge hp (F.wf.num _ _)).scale};{exact F.wf.merge hp (F.wf.num _ _)}
def HW {s:Scp}{g:F}{l:List Mult}(h:g.wf 2000):s.provesR (fA g) l=s.proves (fA g) l:=by unfold Scp.provesR Scp.proves;rw[(h.mono (by decide)).valid,(h.mono (by decide)).valid]
def RB (s:Scp)(m:Lem)(hs:s.sz (2^20))(hm:m.v.sz (2^20))(hok:SumOk s m.pf):zE 49 [sv s,lv' m] (zM (s.lemB m)):=by
 refine sF Tryz.f49 ?_;have cvd:=HO m.v (hm.mono (by decide));have crv:=Yr s.q (hs.q.mono (by decide));have hno:¬(0<=m.u/\m.u<s.q.g.us.length)->s.lemB m=false:=λh=>by grind [Scp.lemB]
 have hno2:m.v.ok=false->s.lemB m=false:=λh=>by grind [Scp.lemB]
 have hno3:s.q.valid=false->s.lemB m=false:=λh=>by grind [Scp.lemB]
 have hyes:∀ p,0<=m.u->m.u<s.q.g.us.length->m.v.ok=true->s.q.valid=true->s.q.g.us[m.u.toNat]?=some p->s.lemB m=s.proves (fA (m.form p.f)) m.pf:=λp h1 h2 h3 h4 h5=>by grind [Scp.lemB]
 have hfp:∀ p,s.q.valid=true->p∈s.q.g.us->p.f.fl (2^20) 2000:=λp h hp=>(hs.q.g.us.sz p hp).fl (by decide) ((Qry.vok_of h).up p hp);have hcs:∀ p,s.q.valid=true->m.v.ok=true->p∈s.q.g.us->zE 90 [av p,av ⟨[],m.v⟩] (av (fA (p.f.sub (F.num m.v.q)))):=λp h h' hp=>by obtain⟨h1,h2⟩:=(Qry.can_of h).us p hp;have:=Ys h2 (Cn.nil:Cn (F.num m.v.q).ts) (hfp p h hp) (kJ (hm.fits (by decide))) (by decide) (by decide) (by decide) (by decide);dsimp only [fv] at this;rw[h1,show fA (F.num m.v.q)=⟨[],zI m.v.q⟩ from rfl,Fe h'] at this;omega
 have hcm:∀ p,s.q.valid=true->p∈s.q.g.us->zE 24 [av (fA (p.f.sub (F.num m.v.q))),rv (zI ((-1:Int):Rat))] (av (fA ((p.f.sub (F.num m.v.q)).scale (-1)))):=λp h hp =>
  rL ((hfp p h hp).sub (kJ (hm.fits (by decide)))) uA (by decide) (by decide) (m:=1) (by decide)
 have hcp:∀ p,s.q.valid=true->p∈s.q.g.us->zE 99 [sv s,av (fA (m.form p.f)),mlv m.pf] (zM (s.proves (fA (m.form p.f)) m.pf)):=λp h hp=>by have ff:=Pd (m:=m) (hfp p h hp) (hm.fits (by decide));have:=Rz s (fA (m.form p.f)) m.pf hs ((JJ ff (by decide)).mono (by decide)) (by rw[show (fA (m.form p.f)).ts=tR (m.form p.f).ts from rfl,vL];have:=ff.len;omega) hok;rw[HW (Pc (N0 h hp))] at this;omega
 have c1:=s32 (-1) (by decide) (by decide);have cnm:=ZR m.v;have hul:=hs.q.g.us.len;generalize hres:s.lemB m=res at *;generalize m.v.ok=ok at *;generalize hvd:s.q.valid=vd at *;clear hres hs hm hok hfp;cbv;refine cA crv ?_;cbv;refine yH (λe4=>?_) (λe4=>?_)
 rotate_left
 ·cbv
  (refine rC ?_;cbv)
  exact zN (hno3 e4)
 cbv;refine zU (λe1=>?_) (λe1=>?_)
 ·cbv
  (refine rC ?_;cbv)
  exact zN (hno om)
 cbv;refine zU (λe2=>?_) (λe2=>?_)
 ·cbv
  (refine rC ?_;cbv)
  exact zN (hno (by rw[zB] at e2;exact om))
 rw[zB] at e2;cbv;refine cA cvd ?_;cbv;refine zS (λe3=>?_) (λe3=>?_)
 rotate_left
 ·cbv
  (refine rC ?_;cbv)
  exact zN (hno2 e3)
 obtain⟨p,hp⟩:∃ p,s.q.g.us[m.u.toNat]?=some p:=zY (by exact om);have hmem:=z8 hp;have hr:=hyes p (by exact om) (by exact om) e3 e4 hp;have cs:=hcs p e4 e3 hmem;have cm:=hcm p e4 hmem;have cp:=hcp p e4 hmem;have hu:m.u=((m.u.toNat:Nat):Int):=by exact om
 have hform:m.form p.f=if m.up=true then (p.f.sub (F.num m.v.q)).scale (-1) else p.f.sub (F.num m.v.q):=rfl
 have idx:∀ {K:List PV->Prop},K (ac p)->IdxOk 4 (λ_=>enc ac s.q.g.us) (λ_=>m.u) K:=λhK=>vN hp hu vP qD hK;rw[hr];clear hr hcs hcm hcp hyes hno hno2 hno3 cvd crv;obtain⟨G,hG⟩:=ex (fA (p.f.sub (F.num m.v.q)));obtain⟨G2,hG2⟩:=ex (fA ((p.f.sub (F.num m.v.q)).scale (-1)));obtain⟨M1,hM1⟩:=ex (zI ((-1:Int):Rat));rw[hG] at cs cm;rw[hG2,hM1] at cm;rw[hM1] at c1;generalize s.proves (fA (m.form p.f)) m.pf=res' at *;cbv;refine gD 13 (by cbv) (by cbv) ?_;cbv;refine idx ?_;cbv;refine dA cnm ?_;cbv;refine dA cs ?_;cbv;refine zS (λe5=>?_) (λe5=>?_);{rw[hform,if_pos e5,hG2] at cp;cbv;refine zP 3 (by cbv) ?_;cbv;refine dA c1 ?_;cbv;refine dA cm ?_;cbv;refine cA cp ?_;cbv;exact rA};{rw[hform,if_neg (by grind),hG] at cp;cbv;refine cA cp ?_;cbv;exact rA}
def Mp (s:Scp)(hs:s.sz (2^20))(hok:∀ (i:Nat) (m:Lem),s.lems[i]?=some m->SumOk (s.pre i) m.pf):zE 16 [sv s] (zM s.scopeB):=by
 refine sF Tryz.f16 ?_;have crv:=Yr s.q (hs.q.mono (by decide));have cF:=λ(d:Dec) (hd:d∈s.path)=>PQ s.q d (hs.q.mono (by decide)) ((hs.path.sz d hd).mono (by decide));have hcl:∀ i m,s.lems[i]?=some m->zE 49 [sv ⟨s.q,s.path,s.lems.take i⟩,lv' m] (zM ((s.pre i).lemB m)):=λi m hm =>
  RB (s.pre i) m (Scp.pre_sz hs i) (hs.lems.sz m (z8 hm)) (hok i m hm)
 have hr:s.scopeB=(s.q.valid&&((s.path.all λd=>s.q.valid&&d.fits s.q)&&jG s 0 s.lems)):=rfl;have hll:=hs.lems.len;have hpl:=hs.path.len;have hcons:∀ i m r,jG s i (m::r)=((s.pre i).lemB m&&jG s (i+1) r):=λ_ _ _=>rfl;obtain⟨LF,hLF⟩:=ex (jG s);have hnil:∀ i,LF i []=true:=λi=>by rw[<-hLF];rfl
 obtain⟨P,hP⟩:∃ P:Dec->Bool,∀ d,P d=(s.q.valid&&d.fits s.q):=⟨_,λ_=>rfl⟩;rw[hLF] at hr hcons;simp only[<-hP] at hr cF;obtain⟨LB',hLB⟩:∃ LB:Nat->Lem->Bool,∀ i m,LB i m=(s.pre i).lemB m:=⟨_,λ_ _=>rfl⟩;simp only[<-hLB] at hcons hcl;generalize s.scopeB=res at *;generalize s.q.valid=vd at *;clear hs hok hLF hP hLB;cbv;refine cA crv ?_;cbv;refine zS (λe1=>?_) (λe1=>?_)
 rotate_left
 ·cbv
  (refine rC ?_;cbv)
  exact zN (by grind)
 rw[e1,yU] at hr;cbv;refine zZ (σ:=Nat) (λi=>⟨[(1,.ptr 1 0),(3,iV i)],[(1,.box (sc s))]⟩)
  (λi=>i<=s.path.length/\res=((s.path.drop i).all P&&LF 0 s.lems)) (λi=>s.path.length-i) 0 ⟨by omega,hr⟩ (wkZ) ?_
 clear hr crv;intro i hi;obtain⟨h1,h2⟩:=hi;cbv;refine zH (λh5=>?_) (λh5=>?_)
 ·have hlt:=gL h5;obtain⟨d,hd⟩:=zY hlt;have cf:=cF d (z8 hd);rw[yI hd,YO] at h2;generalize P d=pd at *;clear hcl hcons;cbv;refine zP 9 (by cbv) ?_;cbv;refine yT hd aT tV ?_;cbv;refine dA cf ?_;cbv;refine zS (λe2=>?_) (λe2=>?_);{rw[e2,yU] at h2;cbv;exact⟨zF om om,i+1,⟨om,h2⟩,om,wkZ⟩}
  ·cbv
   (refine rC ?_;cbv)
   exact zN (by grind)
 have hi':=r9 h5 h1;rw[hi',w5,List.all_nil,yU] at h2;clear cF h5 h1 hi';cbv;refine zZ (σ:=Nat) (λi=>⟨[(1,.ptr 1 0),(4,iV i)],[(1,.box (sc s))]⟩)
  (λi=>i<=s.lems.length/\res=LF i (s.lems.drop i)) (λi=>s.lems.length-i) 0 ⟨by omega,h2⟩ (wkZ) ?_
 clear h2;intro i hi;obtain⟨h1,h2⟩:=hi;cbv;refine zH (λh5=>?_) (λh5=>?_)
 ·have hlt:=gL h5;obtain⟨m,hm⟩:=zY hlt;rw[yI hm,hcons] at h2;have cl:=hcl i m hm;generalize LB' i m=b at *;clear hcl hcons;cbv;refine gD 10 (by cbv) (by cbv) ?_;cbv;refine⟨qF om om (by rw[zB];exact om),vO jO _,?_⟩;cbv;refine zP 8 (by cbv) ?_;cbv;refine yT hm qI jO ?_;cbv;refine wH (by exact⟨⟨lR,lR,lR,lR,lR,lR,lR,lR,lR,lR,lR,zT (by simp[enc,UR]),trivial⟩,okA,trivial⟩) cl rfl ?_;cbv;refine zS (λe3=>?_) (λe3=>?_);{rw[e3,yU] at h2;cbv;exact⟨zF om om,i+1,⟨om,h2⟩,om,wkZ⟩}
  ·cbv
   (refine rC ?_;cbv)
   exact zN (by grind)
 ·have hi':=r9 h5 h1;rw[hi',w5,hnil] at h2;cbv
  (refine rC ?_;cbv)
  exact yL h2
def XI (s:Scp)(unit:Int)(hs:Lsz (2^20) s.lems):zE 87 [sv s,iV unit] (.tup [iV (((s.best unit).1:Int)),iV (((s.best unit).2:Int))]):=by
 refine sF Tryz.f87 ?_;have hll:=hs.len;obtain⟨⟨⟨gn,us,os⟩,⟨lo,hi,rows⟩,⟨ts,c1,c2,c3⟩⟩,path,L⟩:=s;dsimp only at hs hll;have cc:∀ m m',m∈L->m'∈L->zE 47 [rv m.v,rv m'.v] (iV (wN m.v.q m'.v.q)):=λm m' h h'=>s42 m.v m'.v ((hs.sz m h).mono (by decide)) ((hs.sz m' h').mono (by decide));have hst:∀ n m r b,gG L unit n (m::r) b=gG L unit (n+1) r (if m.u=unit then (if m.up=true then (if b.2=0\/wN m.v.q (wP L b.2)<0 then (b.1,n+1) else b) else (if b.1=0\/0<wN m.v.q (wP L b.1) then (n+1,b.2) else b)) else b):=λ_ _ _ _=>rfl;have hva:∀ k m,L[k-1]?=some m->wP L k=m.v.q:=λk m h=>by grind [wP]
 have hni:∀ n b,gG L unit n [] b=b:=λ_ _=>rfl;have hgoal:((⟨⟨⟨gn,us,os⟩,⟨lo,hi,rows⟩,⟨ts,c1,c2,c3⟩⟩,path,L⟩:Scp).best unit)=gG L unit 0 L (0,0):=rfl;rw[hgoal];obtain⟨B,hB⟩:=ex (gG L unit 0 L (0,0));rw[hB];obtain⟨B1,B2⟩:=B;dsimp only;generalize gG L unit=BG at *;clear hgoal;cbv;refine zZ (σ:=Nat×Nat×Nat) (λst=>⟨[(1,iV unit),(2,.ptr 2 0),(6,iV st.2.1),(7,iV st.2.2),(8,iV (((st.1+1:Nat):Int)))],[(2,.box [iV gn,alv us,alv os,rlv lo,rlv hi,alv rows,tsv ts,zM c1,nat c2,nat c3,dlv path,llv L])]⟩)
  (λst=>st.1<=L.length/\BG st.1 (L.drop st.1) st.2=(B1,B2)/\st.2.1<=L.length/\st.2.2<=L.length) (λst=>L.length-st.1)
  (0,0,0) ⟨by omega,hB,xK _,xK _⟩ (wkZ) ?_
 intro st hst';obtain⟨i,b1,b2⟩:=st;obtain⟨h1,h2,h3,h4⟩:=hst';dsimp only at h1 h2 h3 h4;clear hB;cbv;refine zH (λh5=>?_) (λh5=>?_)
 ·(rw[zB] at h5;have hlt:i<L.length:=by exact om);obtain⟨m,hm⟩:=zY hlt
  (have hmem:=z8 hm;rw[yI hm,hst] at h2;have idx:∀ {K:List PV->Prop},K (lc m)->IdxOk 6 (λ_=>enc lc L) (λ_=>((i+1:Nat):Int)-1) K:=λhK=>vN hm oM qI jO hK;have hin:∀ k:Nat,k<=L.length->¬k=0->∃ m',m'∈L/\wP L k=m'.v.q/\∀ {K:List PV->Prop},K (lc m')->IdxOk 6 (λ_=>enc lc L) (λ_=>(k:Int)-1) K:=λk hk h0=>by obtain⟨m',hm'⟩:=zY (l:=L) (i:=k-1) oM;exact⟨m',z8 hm',hva k m' hm',λhK=>vN hm' oM qI jO hK⟩);clear hst hva;cbv;refine⟨zF om om,idx ?_⟩;cbv;refine zH (λe1=>?_) (λe1=>?_)
  ·rw[if_pos e1] at h2;cbv;refine zP 19 (by cbv) ?_;cbv;refine yH (λe2=>?_) (λe2=>?_)
   ·rw[if_pos e2] at h2;cbv;refine zU (λe3=>?_) (λe3=>?_)
    ·(have e3':b2=0:=by exact om);rw[if_pos (.inl e3')] at h2
     cbv;refine zP 20 (by cbv) ?_;cbv;refine yH (λe4=>?_) (λe4=>by rw[e2] at e4;cases e4);cbv;exact⟨zF om om,(i+1,b1,(i+1)),⟨om,h2,oM,(by grind)⟩,om,wkZ⟩
    (have e3':¬b2=0:=by exact om);obtain⟨m',hm',hv',idx'⟩:=hin b2 h4 e3'
    have cx:=cc m m' hmem hm';rw[hv'] at h2;generalize wN m.v.q m'.v.q=x at *;cbv;refine⟨zF om om,idx' ?_⟩;cbv;refine dA cx ?_;cbv;refine zH (λe5=>?_) (λe5=>?_);{rw[if_pos (.inr e5)] at h2;cbv;refine zP 20 (by cbv) ?_;cbv;refine yH (λe4=>?_) (λe4=>by rw[e2] at e4;cases e4);cbv;exact⟨zF om om,(i+1,b1,(i+1)),⟨om,h2,oM,(by grind)⟩,om,wkZ⟩};{rw[if_neg (λh=>h.elim e3' e5)] at h2;cbv;refine zP 20 (by cbv) ?_;cbv;refine yH (λe4=>?_) (λe4=>by rw[e2] at e4;cases e4);cbv;exact⟨zF om om,(i+1,b1,b2),⟨om,h2,oM,oM⟩,om,wkZ⟩}
   ·rw[if_neg (by grind)] at h2;cbv;refine zP 20 (by cbv) ?_;cbv;refine yH (λe4=>by rw[e2] at e4;cases e4) (λe4=>?_);cbv;refine zU (λe3=>?_) (λe3=>?_)
    ·(have e3':b1=0:=by exact om);rw[if_pos (.inl e3')] at h2
     cbv;exact⟨zF om om,(i+1,(i+1),b2),⟨om,h2,(by grind),oM⟩,om,wkZ⟩
    (have e3':¬b1=0:=by exact om);obtain⟨m',hm',hv',idx'⟩:=hin b1 h3 e3'
    have cx:=cc m m' hmem hm';rw[hv'] at h2;generalize wN m.v.q m'.v.q=x at *;cbv;refine⟨zF om om,idx' ?_⟩;cbv;refine dA cx ?_;cbv;refine zH (λe5=>?_) (λe5=>?_);{rw[if_pos (.inr e5)] at h2;cbv;exact⟨zF om om,(i+1,(i+1),b2),⟨om,h2,(by grind),oM⟩,om,wkZ⟩};{rw[if_neg (λh=>h.elim e3' e5)] at h2;cbv;exact⟨zF om om,(i+1,b1,b2),⟨om,h2,oM,oM⟩,om,wkZ⟩}
  {rw[if_neg e1] at h2;cbv;exact⟨zF om om,(i+1,b1,b2),⟨om,h2,oM,oM⟩,om,wkZ⟩}
 ·(have hi:i=L.length:=by rw[zB] at h5;exact om);rw[hi,w5,hni] at h2
  obtain⟨q1,q2⟩:=Prod.mk.inj h2;subst q1 q2;cbv;exact rA
def RA (a b:List (Row×Rat))(c:R)(ha:∀ t,t∈a->Fits (2^28) t.2)(hal:a.length<=2^36)(hb:∀ t,t∈b->Fits (2^23) t.2)(hbl:b.length<=32)(hc:c.sz (2^20)):zE 122 [mlv (mR a),mlv (mR b),rv c] (mlv (mR (kY a b c.q))):=by
 refine sF Tryz.f122 ?_;have hcf:Fits (2^20) c.q:=hc.fits (by decide);have c1:∀ q,Fits (2^23) q->zE 52 [rv (zI q),rv c] (rv (zI (q*c.q))):=λq hq=>by have:=s77 (zI q) c ((zX hq).mono (by decide)) (hc.mono (by decide));rw[z7] at this;omega
 have c2:∀ (l:List (Row×Rat)) (r:Row) (q:Rat),Mfit (2^30) l->Fits (2^24) q->zE 182 [mlv (mR l),rwv r,rv (zI q)] (mlv (mR (plMq l r q))):=λl r q hl hq=>by have:=EA l r (zI q) hl ((zX hq).mono (by decide));grind [z7]
 obtain⟨A0,hA0⟩:∃ n:Nat,n=2^28:=⟨_,rfl⟩;obtain⟨L0,hL0⟩:∃ n:Nat,n=2^36:=⟨_,rfl⟩;obtain⟨D0,hD0⟩:∃ n:Nat,n=2^24+1:=⟨_,rfl⟩;rw[<-hA0] at ha;rw[<-hL0] at hal;have hAD:∀ i:Nat,i<=32->A0+i*D0<=2^30:=λi hi=>by grind
 obtain⟨G,hG⟩:∃ G:List (Row×Rat)->List (Row×Rat)->List (Row×Rat),∀ x y,G x y=kY x y c.q:=⟨_,λ_ _=>rfl⟩;have hn:∀ x,G x []=x:=λx=>by rw[hG];rfl
 have hs:∀ x t r,G x (t::r)=G (plMq x t.1 (t.2*c.q)) r:=λx t r=>by rw[hG,hG];rfl
 rw[<-hG];obtain⟨res,hres⟩:=ex (G a b);rw[hres];clear hG;have hbm:∀ (i:Nat) t,b[i]?=some t->(mR b)[i]?=some ⟨t.1,zI t.2⟩:=λi t h=>by simp[mR,vH,h]
 have hbl':(mR b).length=b.length:=qS b;cbv;refine zZ (σ:=Nat×List (Row×Rat)) (λs=>⟨[(0,mlv (mR s.2)),(1,mlv (mR b)),(5,.ptr 5 0),(7,iV s.1)],[(5,.box [zM c.neg,nat c.num,nat c.den])]⟩)
  (λs=>s.1<=b.length/\G s.2 (b.drop s.1)=res/\(∀ t,t∈s.2->Fits (A0+s.1*D0) t.2)/\s.2.length<=L0+s.1) (λs=>b.length-s.1)
  (0,a) ⟨xK _,hres,by grind,by omega⟩ (wkZ) ?_
 intro st hst;obtain⟨i,acc⟩:=st;obtain⟨h1,h2,h3,h4⟩:=hst;dsimp only at h1 h2 h3 h4;clear hres;cbv;refine zH (λh5=>?_) (λh5=>?_)
 ·(rw[zB,hbl'] at h5;have hlt:i<b.length:=by exact om);obtain⟨t,ht⟩:=zY hlt
  have hm:=hbm i t ht;have hq:=hb t (z8 ht);rw[yI ht,hs] at h2;obtain⟨r,q⟩:=t;dsimp only at h2 hm hq;have d1:=c1 q hq;have d2:=c2 acc r (q*c.q) ⟨by omega,λt ht=>(h3 t ht).mono (hAD i oM)⟩ ((x5 hq hcf).mono (by decide));have h3':=BJ (r:=r) ((x5 hq hcf).mono (show _<=2^24 by decide)) h3;have h4':=BI acc r (q*c.q);generalize plMq acc r (q*c.q)=acc' at *;generalize zI (q*c.q)=Y at *;generalize zI q=X at *;clear c1 c2 hs hn;cbv;refine zP 14 (by cbv) ?_;cbv;refine yT hm uX w7 ?_;cbv;refine yT hm uX w7 ?_;cbv;refine dA d1 ?_;cbv;refine dA d2 ?_;cbv;exact⟨zF om om,(i+1,acc'),⟨om,h2,λt ht=>(h3' t ht).mono (by grind),(by grind)⟩,om,wkZ⟩
 ·(have hi:i=b.length:=by rw[zB,hbl'] at h5;exact om);rw[hi,w5,hn] at h2
  subst h2;cbv;exact rA
def Mr (s:Scp)(v:Int)(hv:-4611686018427387904<=v)(hv2:v<4611686018427387904)(hn:0<=s.q.g.n)(hn2:s.q.g.n<=256):zE 121 [sv s,iV v] (mlv (mR (s.atLeastM v))):=by
 refine sF Tryz.f121 ?_;have c1:=s32 1 (by decide) (by decide);rw[show (((1:Int):Rat))=(1:Rat) by rfl] at c1;have h1:v<s.q.g.n->mR (s.atLeastM v)=[⟨⟨1,v,0,0⟩,zI 1⟩]:=λh=>by unfold Scp.atLeastM;rw[if_pos h];rfl
 have h2:¬v<s.q.g.n->mR (s.atLeastM v)=[⟨⟨5,v-s.q.g.n,0,0⟩,zI 1⟩]:=λh=>by unfold Scp.atLeastM;rw[if_neg h];rfl
 generalize mR (s.atLeastM v)=res at *;generalize zI 1=O1 at *;cbv;refine zH (λe=>?_) (λe=>?_)
 ·rw[h1 e];cbv;refine cA c1 ?_;cbv
  (refine pB ?_;cbv)
  (refine rC ?_;cbv)
  exact zT rfl
 ·rw[h2 e];cbv;refine zP 10 (by cbv) ?_;cbv;refine⟨zF (by exact om) (by exact om),?_⟩;cbv;refine dA c1 ?_;cbv
  (refine rC ?_;cbv)
  exact zT rfl
def LT (x y:R):mkRat (sgn (x.neg != y.neg) (val x.num*y.d)) (x.d*val y.num)=x.q/y.q:=by rw[nS,R.q,R.q,<-nT,<-nT,<-nT,Rat.inv_divInt,Rat.divInt_mul_divInt];unfold R.n sgn;cases x.neg <;> cases y.neg <;> simp[Rat.divInt_neg',Int.neg_mul,Int.mul_neg]
def Dl {q:Rat}:yF q=0↔q=0:=by grind [yF]
def EQ (x y:R)(hx:x.sz (2^31))(hy:y.sz (2^31))(h0:y.q≠0):zE 181 [rv x,rv y] (.tup [rv (zI (x.q/y.q)),iV 0]):=by
 refine sF Tryz.f181 ?_;have h1:=hx.n;have h2:=hx.d;have h3:=hy.n;have h4:=hy.d;have h7:=tJ x.den;have h8:=tJ y.den;have hyn:val y.num≠0:=λh=>h0 (by
  (have:y.n=0:=by unfold R.n;rw[h];simp[sgn]);rw[R.q,this];simp)
 have csg:=s35 y oM;have hsg:¬yF y.q=0:=λh=>h0 (Dl.1 h);have cux:=HQ x.den oM;have cuy:=HQ y.den oM;have cm:=s99 (j7 x.den) y.num oM oM;have hml:=j9 (j7 x.den) y.num;rw[aD] at cm hml;have cn:=s99 x.num (j7 y.den) oM oM;have hnl:=j9 x.num (j7 y.den);rw[aD] at cn hnl;have cq:=Bo (x.neg != y.neg) (zL (val x.num*y.d)) (zL (x.d*val y.num)) oM oM (by rw[zQ];exact Yj x.d_ne hyn);rw[zQ,zQ,LT] at cq;have hb:(x.neg != y.neg)=!decide (x.neg=y.neg):=by grind
 clear hml hnl hx hy h0;generalize zI (x.q/y.q)=W at *;generalize yF y.q=sg at *;generalize zL (x.d*val y.num)=M at *;generalize zL (val x.num*y.d)=P at *;generalize j7 x.den=ux at *;generalize j7 y.den=uy at *;obtain⟨a,b,c⟩:=x;obtain⟨a',b',c'⟩:=y;simp only at *;generalize (a != a')=nb at *;cbv;refine cA csg ?_;cbv;refine yE hsg ?_;cbv;refine zP 18 (by cbv) ?_;cbv;refine dA cuy ?_;cbv;refine dA cn ?_;cbv;refine dA cux ?_;cbv;refine dA cm ?_;cbv;refine wH (by exact⟨v7 hb,lR,lR,trivial⟩) cq rfl ?_;cbv;exact rA
def Mq (s:Scp)(v:Int)(hs:Lsz (2^20) s.lems)(hv:-4611686018427387904<=v)(hv2:v<4611686018427387904)(hn:0<=s.q.g.n)(hn2:s.q.g.n<=256):zE 120 [sv s,iV v] (.tup [mlv (mR ((s.atMostM v).getD [])),zM ((s.atMostM v).isSome)]):=by
 refine sF Tryz.f120 ?_;have c1:=s32 1 (by decide) (by decide);rw[show (((1:Int):Rat))=(1:Rat) by rfl] at c1;have cb:=XI s (v-s.q.g.n) hs;have hbs:=λk h h0=>sA (s:=s) (unit:=v-s.q.g.n) (k:=k) h h0;have hss:=hs.sz;have hva:∀ k m,s.lems[k-1]?=some m->wP s.lems k=m.v.q:=λk m h=>by unfold wP;rw[h];rfl
 have h1:v<s.q.g.n->s.atMostM v=some [(⟨2,v,0,0⟩,1)]:=λh=>by unfold Scp.atMostM;rw[if_pos h]
 have h2:¬v<s.q.g.n->(s.best (v-s.q.g.n)).1=0\/(s.best (v-s.q.g.n)).2=0->s.atMostM v=none:=λh h'=>by unfold Scp.atMostM;rw[if_neg h,if_pos h']
 have h3:¬v<s.q.g.n->¬((s.best (v-s.q.g.n)).1=0\/(s.best (v-s.q.g.n)).2=0)->s.atMostM v=some (upM (v-s.q.g.n) (s.best (v-s.q.g.n)).1 (s.best (v-s.q.g.n)).2 (wP s.lems (s.best (v-s.q.g.n)).1) (wP s.lems (s.best (v-s.q.g.n)).2)):=λh h'=>by unfold Scp.atMostM;rw[if_neg h,if_neg h']
 generalize s.atMostM v=o at *;generalize s.best (v-s.q.g.n)=B at *;obtain⟨b1,b2⟩:=B;dsimp only at h2 h3 hbs cb;have hll:=hs.len;obtain⟨⟨⟨gn,us,os⟩,⟨lo,hi,rows⟩,⟨ts,c1',c2',c3'⟩⟩,path,L⟩:=s;dsimp only at *;obtain⟨res,hres⟩:=ex (mR (o.getD []));obtain⟨bb,hbb⟩:=ex o.isSome;rw[hres,hbb];have r1:v<gn->res=[⟨⟨2,v,0,0⟩,zI 1⟩]/\bb=true:=λh=>by rw[<-hres,<-hbb,h1 h];exact⟨rfl,rfl⟩
 have r2:¬v<gn->b1=0\/b2=0->res=[]/\bb=false:=λh h'=>by rw[<-hres,<-hbb,h2 h h'];exact⟨rfl,rfl⟩
 have r3:¬v<gn->¬(b1=0\/b2=0)->∀ m1 m2,L[b1-1]?=some m1->L[b2-1]?=some m2->res=mR (upM (v-gn) b1 b2 m1.v.q m2.v.q)/\bb=true:=λh h' m1 m2 g1 g2=>by rw[<-hres,<-hbb,h3 h h',hva b1 m1 g1,hva b2 m2 g2];exact⟨rfl,rfl⟩
 clear h1 h2 h3 hres hbb hva hs;obtain⟨O1,hO1⟩:=ex (zI 1);rw[hO1] at c1 r1;cbv;refine cA c1 ?_;cbv;refine zH (λe=>?_) (λe=>?_)
 ·obtain⟨q1,q2⟩:=r1 e;subst q1 q2;cbv
  (refine pB ?_;cbv)
  (refine rC ?_;cbv)
  exact⟨zT rfl,yL rfl,trivial⟩
 cbv;refine⟨zF (by exact om) (by exact om),?_⟩;cbv;refine cA cb ?_;cbv;refine zU (λe1=>?_) (λe1=>?_);{obtain⟨q1,q2⟩:=r2 e (.inl (by exact om));subst q1 q2;cbv;exact rA};cbv;refine zH (λe2=>?_) (λe2=>?_);{obtain⟨q1,q2⟩:=r2 e (.inr (by exact om));subst q1 q2;cbv;exact rA};have e1':b1≠0:=by exact om
 have e2':b2≠0:=by exact om
 obtain⟨m1,g1,_⟩:=hbs b1 (.inl rfl) e1';obtain⟨m2,g2,_⟩:=hbs b2 (.inr rfl) e2';have r3':=r3 e oM m1 m2 g1 g2;have z1:=hss m1 (z8 g1);have z2:=hss m2 (z8 g2);have l1:=(wI.1 g1).1;have l2:=(wI.1 g2).1;have i1:∀ {K:List PV->Prop},K (lc m1)->IdxOk 6 (λ_=>enc lc L) (λ_=>(b1:Int)-1) K:=λhK=>vN g1 oM qI jO hK;have i2:∀ {K:List PV->Prop},K (lc m2)->IdxOk 6 (λ_=>enc lc L) (λ_=>(b2:Int)-1) K:=λhK=>vN g2 oM qI jO hK;have csl:=s35 m1.v (by have:=z1.n;omega);have csu:=s35 m2.v (by have:=z2.n;omega);have cdf:=s93 m2.v m1.v (z2.mono (by decide)) (z1.mono (by decide));have fu:=z2.fits (by decide);have fd:=dS fu (z1.fits (by decide));have cdv:m2.v.q-m1.v.q≠0->zE 181 [rv O1,rv (zI (m2.v.q-m1.v.q))] (.tup [rv (zI (1/(m2.v.q-m1.v.q))),iV 0]):=λh=>by have:=EQ (zI 1) (zI (m2.v.q-m1.v.q)) ((zX fits_one).mono (by decide)) ((zX fd).mono (by decide)) (by rw[z7];exact h);rw[z7,z7,hO1] at this;exact this
 have fq:Fits (2^22) (1/(m2.v.q-m1.v.q)):=by rw[nS];exact (x5 fits_one (WH fd)).mono (by decide)
 have cmu:=s77 (zI (1/(m2.v.q-m1.v.q))) m2.v ((zX fq).mono (by decide)) (z2.mono (by decide));rw[z7] at cmu;have hne:¬yF m2.v.q<=0->¬0<=yF m1.v.q->m2.v.q-m1.v.q≠0:=λh h'=>by
  (have hu:0<m2.v.q:=by unfold yF at h;split at h <;> (try split at h) <;> grind);have hl:m1.v.q<0:=by unfold yF at h';split at h' <;> (try split at h') <;> grind
  grind
 have ra:yF m2.v.q<=0->res=[⟨⟨10,v-gn,0,b2⟩,O1⟩]:=λh=>by rw[r3'.1,<-hO1];unfold upM;rw[if_pos h];rfl
 have rb:¬yF m2.v.q<=0->0<=yF m1.v.q->res=[⟨⟨8,v-gn,b1,0⟩,O1⟩,⟨⟨12,v-gn,0,b2⟩,O1⟩]:=λh h'=>by rw[r3'.1,<-hO1];unfold upM;rw[if_neg h,if_pos h'];rfl
 have rcc:¬yF m2.v.q<=0->¬0<=yF m1.v.q->res=[⟨⟨12,v-gn,0,b2⟩,zI (1/(m2.v.q-m1.v.q)*m2.v.q)⟩,⟨⟨13,v-gn,b1,b2⟩,zI (1/(m2.v.q-m1.v.q))⟩]:=λh h'=>by rw[r3'.1];unfold upM;rw[if_neg h,if_neg h'];rfl
 obtain⟨_,q2⟩:=r3';subst q2;have cdv':=λh h'=>cdv (hne h h');clear cdv hne fq fd fu z1 z2 r1 r2 r3 cb hbs c1;generalize yF m2.v.q=su at *;generalize yF m1.v.q=sl at *;generalize zI (1/(m2.v.q-m1.v.q)*m2.v.q)=M at *;generalize zI (1/(m2.v.q-m1.v.q))=Q at *;generalize zI (m2.v.q-m1.v.q)=D at *;cbv;refine uI 17 [(16,10)] (by cbv) (by cbv) (by cbv) ?_;cbv;refine⟨zF (by exact om) (by exact om),i1 ?_⟩;cbv;refine⟨zF (by exact om) (by exact om),i2 ?_⟩;cbv;refine cA csu ?_;cbv;refine zH (λe3=>?_) (λe3=>?_)
 ·have q1:=ra e3;subst q1;cbv
  (refine pB ?_;cbv)
  (refine rC ?_;cbv)
  exact⟨zT rfl,yL rfl,trivial⟩
 cbv;refine cA csl ?_;cbv;refine zH (λe4=>?_) (λe4=>?_)
 ·have q1:=rb e3 e4;subst q1;cbv
  (refine pB ?_;cbv)
  (refine rC ?_;cbv)
  exact⟨zT rfl,yL rfl,trivial⟩
 have q1:=rcc e3 e4;have cd:=cdv' e3 e4;subst q1;cbv;refine uI 10 [(9,12)] (by cbv) (by cbv) (by cbv) ?_;cbv;refine dA cdf ?_;cbv;refine dA cd ?_;cbv;refine zP 13 (by cbv) ?_;cbv;refine dA cmu ?_;cbv
 (refine pB ?_;cbv)
 (refine rC ?_;cbv)
 exact⟨zT rfl,yL rfl,trivial⟩
structure AbvOk (s:Scp) (f:F):Prop where
 cn:Cn f.ts
 fl:f.fl (2^20) (2^30)
 v:∀ t,t∈f.ts->-4611686018427387904<=t.1/\t.1<4611686018427387904
 pre:∀ i l,s.aboveL (f.ts.take i) []=some l->(∀ t,t∈l->Fits (2^28) t.2)/\l.length<=2^36
 most:∀ t,t∈f.ts->∀ more,s.atMostM t.1=some more->(∀ x,x∈more->Fits (2^20) x.2)/\more.length<=32
 sum:∀ l,s.aboveL f.ts []=some l->SumOk s (mR l)
def YQ {s:Scp}{t:Int×Rat}{more:List (Row×Rat)}(ht:(if 0<yF t.2 then some (s.atLeastM t.1) else s.atMostM t.1)=some more):∀ {ts:List (Int×Rat)} {l l':List (Row×Rat)},s.aboveL ts l=some l'->s.aboveL (ts++[t]) l=some (kY l' more (cC t.2))
 |[],l,l',h=>by cases h;rw[So];unfold Scp.aboveL;rw[ht];rfl
 |x::r,l,l',h=>by
  rw[Vq];unfold Scp.aboveL at h ⊢;cases hx:(if 0<yF x.2 then some (s.atLeastM x.1) else s.atMostM x.1) with
  |none=>grind| some g =>
   rw[hx] at h;exact YQ ht h
def DK (s:Scp)(v:Int):(∀ x,x∈s.atLeastM v->Fits (2^20) x.2)/\(s.atLeastM v).length<=32:=by unfold Scp.atLeastM;split <;> refine⟨λx hx=>?_,by simp⟩ <;> (obtain rfl:=cM.1 hx;exact fits_one.mono (by decide))
def GZ (s:Scp)(f:F)(hs:s.sz (2^20))(hn:0<=s.q.g.n)(hn2:s.q.g.n<=256)(hok:AbvOk s f):zE 77 [sv s,fv f] (.tup [rv (zI (((s.above f).map Prod.fst).getD 0)),mlv (mR (((s.above f).map Prod.snd).getD [])),zM ((s.above f).isSome)]):=by
 refine sF Tryz.f77 ?_;have cam:∀ t,t∈f.ts->zE 120 [sv s,iV t.1] (.tup [mlv (mR ((s.atMostM t.1).getD [])),zM ((s.atMostM t.1).isSome)]):=λt ht=>Mq s t.1 hs.lems (hok.v t ht).1 (hok.v t ht).2 hn hn2;have cal:∀ t,t∈f.ts->zE 121 [sv s,iV t.1] (mlv (mR (s.atLeastM t.1))):=λt ht=>Mr s t.1 (hok.v t ht).1 (hok.v t ht).2 hn hn2;have csg:∀ t,t∈f.ts->zE 26 [rv (zI t.2)] (iV (yF t.2)):=λt ht=>by have:=s35 (zI t.2) (xQ (zX (hok.fl.t t ht)).n (by decide));grind [z7]
 have cmg:∀ t,t∈f.ts->∀ a b,(∀ t,t∈a->Fits (2^28) t.2)->a.length<=2^36->(∀ t,t∈b->Fits (2^20) t.2)->b.length<=32->zE 122 [mlv (mR a),mlv (mR b),.agg [zM false,nat (zI t.2).num,nat (zI t.2).den]] (mlv (mR (kY a b (cC t.2)))):=λt ht a b h1 h2 h3 h4=>by
  (have:=RA a b ⟨false,(zI t.2).num,(zI t.2).den⟩ h1 h2 (λt ht=>(h3 t ht).mono (by decide)) h4 (by rw[o5];exact zX (l5 (hok.fl.t t ht)));have e:(⟨false,(zI t.2).num,(zI t.2).den⟩:R).q=cC t.2:=by rw[o5,z7]);simp_all
 have cfin:∀ l,s.aboveL f.ts []=some l->zE 123 [sv s,mlv (mR l)] (.tup [fv (s.sum (mR l)).2,iV ((s.sum (mR l)).1)])/\zE 90 [fv f,fv (s.sum (mR l)).2] (fv (f.sub (s.sum (mR l)).2)):=λl hl =>
  ⟨GY s (mR l) hs (hok.sum l hl),Ys hok.cn (Scp.sum_can s _) hok.fl (Scp.sum_fl' (hok.sum l hl)) (by decide) (by decide) (by decide) (by decide)⟩
 have hab:s.above f=(s.aboveL f.ts []).map λl=>((f.sub (s.sum (mR l)).2).c,l):=rfl;rw[hab];obtain⟨o,ho⟩:=ex (s.aboveL f.ts []);rw[ho] at cfin ⊢;obtain⟨AL,hAL⟩:=ex s.aboveL;have hTn:∀ l,AL [] l=some l:=λl=>by rw[<-hAL];rfl
 have hTc:∀ t r l,AL (t::r) l=match (if 0<yF t.2 then some (s.atLeastM t.1) else s.atMostM t.1) with
  |none=>none| some more=>AL r (kY l more (cC t.2)):=λt r l=>by rw[<-hAL];rfl
 obtain⟨PR,hPR⟩:∃ PR:Nat->List (Row×Rat)->Prop,∀ i l,PR i l=(s.aboveL (f.ts.take i) []=some l):=⟨_,λ_ _=>rfl⟩;have hPRs:∀ i t more l,f.ts[i]?=some t->(if 0<yF t.2 then some (s.atLeastM t.1) else s.atMostM t.1)=some more->PR i l->PR (i+1) (kY l more (cC t.2)):=λi t more l h1 h2 h3=>by rw[hPR] at h3 ⊢;rw[Xt h1];exact YQ h2 h3
 have hPR0:PR 0 []:=by rw[hPR];rfl
 have hpre:∀ i l,PR i l->(∀ t,t∈l->Fits (2^28) t.2)/\l.length<=2^36:=λi l h=>hok.pre i l (by grind);have hmost:=hok.most;rw[hAL] at ho;have hfl:f.ts.length<2^38:=by have:=hok.fl.len;omega
 obtain⟨V,hV⟩:=ex (fA f);have hVt:∀ (i:Nat) t,f.ts[i]?=some t->V.ts[i]?=some (t.1,zI t.2):=λi t h=>by rw[<-hV];show (tR f.ts)[i]?=_;simp[tR,vH,h]
 have hVl:V.ts.length=f.ts.length:=by rw[<-hV];exact vL _
 have hfv:fv f=av V:=by rw[<-hV]
 rw[hfv] at cfin ⊢;obtain⟨W,hW⟩:∃ W,zI (((o.map λl=>((f.sub (s.sum (mR l)).2).c,l)).map Prod.fst).getD 0)=W:=⟨_,rfl⟩;obtain⟨RL,hRL⟩:∃ W,mR (((o.map λl=>((f.sub (s.sum (mR l)).2).c,l)).map Prod.snd).getD [])=W:=⟨_,rfl⟩;obtain⟨bb,hbb⟩:∃ W,(o.map λl=>((f.sub (s.sum (mR l)).2).c,l)).isSome=W:=⟨_,rfl⟩;rw[hW,hRL,hbb];have gN:o=none->W=R0/\RL=[]/\bb=false:=λh=>by rw[h] at hW hRL hbb;exact⟨hW.symm.trans vR,hRL.symm,hbb.symm⟩
 have gS:∀ l,o=some l->W=zI (f.sub (s.sum (mR l)).2).c/\RL=mR l/\bb=true:=λl h=>by rw[h] at hW hRL hbb;exact⟨hW.symm,hRL.symm,hbb.symm⟩
 clear hW hRL hbb hab hAL hPR hok hV hfv;obtain⟨w1,w2,w3⟩:=W;have gN':o=none->w1=false/\w2=[]/\w3=[]/\RL=[]/\bb=false:=λh=>by grind
 clear gN;cbv;refine zZ (σ:=Nat×List (Row×Rat)) (λst=>⟨[(2,.ptr 2 0),(3,.ptr 3 0),(4,.ptr 4 0),(7,mlv (mR st.2)),(8,iV st.1)],[(2,.box (sc s)),(3,.box [tsv V.ts,zM V.c.neg,nat V.c.num,nat V.c.den]),(4,.box [.ff,.nil,.nil])]⟩)
  (λst=>st.1<=f.ts.length/\AL (f.ts.drop st.1) st.2=o/\PR st.1 st.2) (λst=>f.ts.length-st.1)
  (0,[]) ⟨xK _,ho,hPR0⟩ (wkZ) ?_
 intro st hst;obtain⟨i,acc⟩:=st;obtain⟨h1,h2,h4⟩:=hst;dsimp only at h1 h2 h4;clear ho hPR0;have h3:=hpre i acc h4;cbv;refine zH (λh5=>?_) (λh5=>?_)
 ·(rw[zB,hVl] at h5;have hlt:i<f.ts.length:=by exact om);obtain⟨t,ht⟩:=zY hlt
  have hmem:=z8 ht;have hx:=hVt i t ht;have cam':=cam t hmem;have cal':=cal t hmem;have csg':=csg t hmem;have hmo:=hmost t hmem;have cmg':=cmg t hmem;obtain⟨X,hX⟩:=ex (zI t.2);simp only[hX] at cmg';rw[hX] at hx csg';clear cam cal csg cmg hmost hVt cfin gS;generalize hsg:yF t.2=sg at *;cbv;refine yT hx xX xW ?_;cbv;refine cA cam' ?_;cbv;refine cA csg' ?_;cbv;refine zH (λe1=>?_) (λe1=>?_)
  ·(have HM:(if 0<yF t.2 then some (s.atLeastM t.1) else s.atMostM t.1)=some (s.atLeastM t.1):=by rw[hsg,if_pos e1]);have hls:=DK s t.1
   (have hPn:=hPRs i t _ acc ht HM h4;have hn':AL (f.ts.drop i) acc=AL (f.ts.drop (i+1)) (kY acc (s.atLeastM t.1) (cC t.2)):=by rw[yI ht,hTc,HM]);rw[hn'] at h2
   have cm:=cmg' acc _ h3.1 h3.2 hls.1 hls.2;clear HM hTc hPRs hn' hls;generalize s.atLeastM t.1=more at *;generalize kY acc more (cC t.2)=acc' at *;cbv;refine cA cal' ?_;cbv;refine cA cm ?_;cbv;exact⟨zF om om,(i+1,acc'),⟨om,h2,hPn⟩,om,wkZ⟩
  ·(have HM0:(if 0<yF t.2 then some (s.atLeastM t.1) else s.atMostM t.1)=s.atMostM t.1:=by rw[hsg,if_neg e1]);cases hoo:s.atMostM t.1 with
   |none =>
    (have hz:o=none:=by rw[<-h2,yI ht,hTc,HM0,hoo]);obtain⟨q1,q2,q3,q4,q5⟩:=gN' hz
    subst q1 q2 q3 q4 q5;cbv;refine zS (λe=>absurd e (by simp)) (λ_=>?_);cbv;exact rA
   |some more =>
    (have hls:=hmo more hoo;have hPn:=hPRs i t more acc ht (HM0.trans hoo) h4;have hn':AL (f.ts.drop i) acc=AL (f.ts.drop (i+1)) (kY acc more (cC t.2)):=by rw[yI ht,hTc,HM0,hoo]);rw[hn'] at h2
    (have cm:=cmg' acc more h3.1 h3.2 hls.1 hls.2;have hg:(s.atMostM t.1).getD []=more:=by rw[hoo];rfl);clear HM0 hTc hPRs hn' hls
    generalize kY acc more (cC t.2)=acc' at *;cbv;refine zS (λ_=>?_) (λe=>absurd e (by simp));cbv;refine xE rfl (by exact⟨lR,zT rfl,okA,trivial⟩) cm rfl ?_;cbv;exact⟨zF om om,(i+1,acc'),⟨om,h2,hPn⟩,om,wkZ⟩
 ·(have hi:i=f.ts.length:=by rw[zB,hVl] at h5;exact om);rw[hi,w5,hTn] at h2
  obtain⟨c1,c2⟩:=cfin acc h2.symm;obtain⟨q1,q2,q3⟩:=gS acc h2.symm;subst q2 q3
  (try dsimp only [fv] at c1 c2)
  have e1:fA (f.sub (s.sum (mR acc)).2)=⟨tR (f.sub (s.sum (mR acc)).2).ts,zI (f.sub (s.sum (mR acc)).2).c⟩:=rfl;rw[e1,<-q1] at c2;generalize tR (f.sub (s.sum (mR acc)).2).ts=TT at *;generalize fA (s.sum (mR acc)).2=SS at *;generalize (s.sum (mR acc)).1=code at *;clear q1 e1 gS gN' cfin;cbv;refine cA c1 ?_;cbv;refine cA c2 ?_;cbv;exact rA
theorem Wt.take {s:Scp}:∀ {l:List (Row×Rat)} {N:Nat},Wt s l N->∀ i,∃ M,M<=N/\Wt s (l.take i) M
 |_,_,.nil,i=>⟨0,yX _,by rw[List.take_nil];exact .nil⟩| _,_,.cons hk hg h,0=>⟨0,xK _,by rw[List.take_zero];exact .nil⟩| _,_,.cons (k:=k) (g:=g) (N:=N) hk hg h,i+1=>by obtain⟨M,h1,h2⟩:=h.take i;exact⟨k+g+5+M,by omega,by rw[FW];exact .cons hk hg h2⟩
theorem Wt.fmem {s:Scp}:∀ {l:List (Row×Rat)} {N:Nat},Wt s l N->∀ t,t∈l->∀ f,s.fm t.1=some f->f.fl N 3000
 |_,_,.nil,t,ht=>absurd ht (by simp)| _,_,.cons hk hg h,t,ht=>by rcases yR.1 ht with rfl|ht;{exact λf hf=>(hg f hf).mono oM (yX _)};{exact λf hf=>(h.fmem t ht f hf).mono oM (yX _)}
theorem Wt.sumOk {s:Scp}{l:List (Row×Rat)}{N:Nat}(h:Wt s l N)(hN:N<2^26)(hf:∀ t,t∈l->∀ f,s.fm t.1=some f->f.fl (2^24) 3000)(hc:∀ t,t∈l->Fits (2^20) t.2)(hl:l.length<=100000):SumOk s (mR l) where
 fm m hm f hf':=by obtain⟨t,ht,rfl⟩:=y9.1 hm;exact (hf t ht f hf').mono (yX _) (by decide)
 c:=⟨by rw[qS];omega,λm hm=>by obtain⟨t,ht,rfl⟩:=y9.1 hm;exact (zX (hc t ht)).mono (by decide)⟩
 pre i acc ha:=by
  (obtain⟨M,h1,h2⟩:=h.take i;rw[R4] at ha;have:=h2.sumL zero_fl ha;have hl2:(l.take i).length<=l.length:=by rw[vG];omega);exact this.mono oM oM
theorem Wt.sumOk' {s:Scp}{l:List (Row×Rat)}{N:Nat}(h:Wt s l N)(hN:N<=2^20)(hl:l.length<=100000):SumOk s (mR l) :=
 h.sumOk (xQ hN (by decide)) (λt ht f hf=>(h.fmem t ht f hf).mono (vV hN (by decide)) (yX _)) (λt ht=>(h.mem t ht).mono hN) hl
def Hf {s:Scp}{x:FQry}(hq:s.q=x.q)(hx:x.small)(hL:LB KK s.lems){f:F}{j:Nat}(hj:j<=3)(hf:f.fl 46 7)(hw:f.wf ((x.g.n+j:Nat):Int)):AbvOk s f:=by
 have ok:=Tr hx.g.n1 hx.g.n2 hj;have kl:=Hj j;have hn:=hx.g.n2;have hv:∀ t,t∈f.ts->((0:Nat):Int)<=t.1/\t.1<((x.g.n+j:Nat):Int):=λt ht=>by have:=hw.v t ht;omega
 have key:∀ i l,s.aboveL (f.ts.take i) []=some l->∃ M,M<=2^20/\Wt s l M/\l.length<=14:=λi l h=>by
  (obtain⟨M,h1,h2⟩:=Ym hq hx Kr hL (hi:=x.g.n+j) (lo:=0) (hw.cn.take i) (λt ht=>hv t (p5 ht)) (λt ht=>hf.t t (p5 ht)) (xK _) .nil h;have h3:=eY h;have h4:=hf.len;have h5:(f.ts.take i).length<=f.ts.length:=by rw[vG];omega);have h6:iC KK x.g.n 0=0:=rfl
  (simp only[dZ] at h3;refine⟨M,?_,h2,by omega⟩;have:(679650:Nat)<=2^20:=by decide);omega
 refine⟨hw.cn,hf.mono (by decide) (by decide),λt ht=>?_,λi l h=>?_,λt ht more h=>?_,λl h=>?_⟩;{have:=hv t ht;omega};{obtain⟨M,h1,h2,h3⟩:=key i l h;exact⟨λt ht=>(h2.mem t ht).mono (vV h1 (by decide)),by omega⟩}
 ·(obtain⟨v,hv1⟩:∃ v:Nat,t.1=v:=⟨t.1.toNat,by have:=hv t ht;omega⟩;rw[hv1] at h;obtain⟨B,h1,h2⟩:=Ff hq hx Kr hL v h;have h3:=Ja h;refine⟨λu hu=>(h2.mem u hu).mono ?_,by omega⟩;have hlt:v+1<=x.g.n+j:=by have:=hv t ht;omega);have h4:=Ya (K:=KK) (n:=x.g.n) hlt
  (have h5:iC KK x.g.n (v+1)=iC KK x.g.n v+cst KK x.g.n v:=rfl;have:(679650:Nat)<=2^20:=by decide);omega
 {have hfull:f.ts.take f.ts.length=f.ts:=v6;obtain⟨M,h1,h2,h3⟩:=key f.ts.length l (by rw[hfull];exact h);exact h2.sumOk' h1 oM}
def Sf {t:TypeId}{base x:Operand}{d:Option Nat}{ps ps':PS}{K:PS->Prop}(hw:Wk ps ps')(h:AppK t base x d ps' K):AppK t base x d ps K:=by rcases h.h with h|h;{obtain⟨p,a1,a2,a3,a4,a5,a6,a7,a8⟩:=h.h;exact⟨.inl ⟨p,a1,a2,a3,a4,a5,a6,.trans hw a7,a8⟩⟩};{obtain⟨p,a1,a2,a3,a4,a5,a6,a7,a8,a9,b1,b2,b3,b4,b5,b6⟩:=h.h;exact⟨.inr ⟨p,a1,a2,a3,a4,a5,a6,a7,a8,a9,b1,b2,b3,b4,.trans hw b5,b6⟩⟩}
def gT {α:Type}(p:α->List PV)(l:List α):((enc p l).drop 0).take l.length=enc p l:=by rw[v5,<-zB p l,v6]
def r8 {α:Type}(p:α->List PV)(l:List α):0+l.length<=(enc p l).length:=by rw[zB];omega
end Go.Proofs.YtboocdbmnfjomaaGreat
