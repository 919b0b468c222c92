/- A part of the proof: EvE, LxP, RsA. -/
import Derived.Test.YtboocdbmnfjomaaGreatR33
import Derived.Test.YtboocdbmnfjomaaGreatR28
import Derived.Test.YtboocdbmnfjomaaGreatR32
import Derived.Test.YtboocdbmnfjomaaGreatR22
set_option linter.all false
namespace Go.Proofs.YtboocdbmnfjomaaGreat
open Go
set_option maxRecDepth 100000
set_option maxHeartbeats 4000000
def K1 (x:FQry) (l:List Rat) (i:Int):Rat:=((x.g.us[i.toNat]?).map λf=>f.at (xr (wV x.g.us l))).getD 0
def rQ (x:FQry) (d:Dec) (l:List Rat):Bool :=
 d.fits x.q&&(if d.k=3 then decide (0<=wN (xr l d.i) d.x.q) else if d.k=4 then decide (wN (xr l d.i) d.x.q<=0) else if d.k=1 then decide (0<=yF (K1 x l d.i)) else decide (yF (K1 x l d.i)<=0))
structure InpOk (x:FQry) (l:List Rat):Prop where
 len:l.length=x.g.n
 fit:∀ q,q∈l->Fits 20 q
def Gi {x:FQry}{d:Dec}(h:d.fits x.q=true)(hk:d.k=3\/d.k=4):0<=d.i/\d.i<(x.g.n:Int):=by unfold Dec.fits at h;rw[if_neg oM,if_pos hk] at h;simp only[yS,decide_eq_true_eq] at h;exact h.1
def Nf {x:FQry}{d:Dec}(h:d.fits x.q=true)(hk:¬(d.k=3\/d.k=4)):(d.k=1\/d.k=2)/\0<=d.i/\d.i<(x.g.us.length:Int):=by
 unfold Dec.fits at h;split at h
 ·(rename_i h12;simp only[yS,decide_eq_true_eq] at h;have e:x.q.g.us.length=x.g.us.length:=by show (List.map _ _).length=_;rw[yN]);exact⟨h12,h.1.1,by rw[<-e];exact h.1.2⟩
 {cases h}
def C9 (x:FQry)(d:Dec)(l:List Rat)(hx:x.small)(hok:x.ok)(hd:d.x.sz (2^20))(hl:InpOk x l):zE 55 [qv x.q,dv d,rlv (l.map zI)] (zM (rQ x d l)):=by
 refine sF Tryz.f55 ?_;have hv:=hx.valid hok;have hz:=hx.sz;have cf:=PQ x.q d (hz.mono (by decide)) (hd.mono (by decide));rw[hv,yU] at cf;have hgv:x.g.g.valid=true:=by have:=hv;unfold Qry.valid at this;simp only[yS] at this;exact this.1.1
 have cp:=G4 x.g l hx.g hgv (hz.g.mono (by decide)) hok.us hl.len (m:=20) (by decide) (by decide) hl.fit;have n2:=hx.g.n2;have hll:=hl.len;generalize hres:rQ x d l=res;have r0:res=(d.fits x.q&&(if d.k=3 then decide (0<=wN (xr l d.i) d.x.q) else if d.k=4 then decide (wN (xr l d.i) d.x.q<=0) else if d.k=1 then decide (0<=yF (K1 x l d.i)) else decide (yF (K1 x l d.i)<=0))):=hres.symm;have f1:d.fits x.q=false->res=false:=λh=>by rw[r0,h];rfl
 have c34:d.fits x.q=true->(d.k=3\/d.k=4)->∃ (i:Nat) (q:R) (z:Int),d.i=(i:Int)/\(l.map zI)[i]?=some q/\zE 47 [rv q,rv d.x] (iV z)/\(d.k=3->res=decide (0<=z))/\(d.k=4->res=decide (z<=0)):=λh hk=>by
  (obtain⟨h1,h2⟩:=Gi h hk;obtain⟨q,hq⟩:=zY (l:=l) (i:=d.i.toNat) oM;have hi:d.i=((d.i.toNat:Nat):Int):=by omega);have c:=s42 (zI q) d.x ((zX (hl.fit q (z8 hq))).mono (by decide)) (hd.mono (by decide))
  (rw[z7] at c;have hxr:xr l d.i=q:=by rw[hi];exact ZG hq);refine⟨d.i.toNat,zI q,_,hi,by rw[vH,hq];rfl,c,λh3=>?_,λh4=>?_⟩
  {rw[r0,h,yU,if_pos h3,hxr]};{rw[r0,h,yU,if_neg oM,if_pos h4,hxr]}
 have hpl:((x.g.us.map λf=>f.at (xr (wV x.g.us l))).map zI).length=x.g.us.length:=by rw[yN,yN]
 have c12:d.fits x.q=true->¬(d.k=3\/d.k=4)->∃ (i:Nat) (p:R) (z:Int),d.i=(i:Int)/\((x.g.us.map λf=>f.at (xr (wV x.g.us l))).map zI)[i]?=some p/\zE 26 [rv p] (iV z)/\(d.k=1->res=decide (0<=z))/\(¬d.k=1->res=decide (z<=0)):=λh hk=>by
  (obtain⟨h0,h1,h2⟩:=Nf h hk;obtain⟨f,hfi⟩:=zY (l:=x.g.us) (i:=d.i.toNat) oM;have hi:d.i=((d.i.toNat:Nat):Int):=by omega);have hg:(x.g.us.map λf=>f.at (xr (wV x.g.us l)))[d.i.toNat]?=some (f.at (xr (wV x.g.us l))):=by rw[vH,hfi];rfl
  (have hwf:=hok.us _ f hfi;have hlt:=(wI.1 hfi).1;have hvl:(wV x.g.us l).length=x.g.n+x.g.us.length:=by rw[sD,hll]);obtain⟨V,Q⟩:=F7 hx.g hok.us hll (m:=20) (by decide) (by decide) hl.fit
  have hft:Fits (2^28) (f.at (xr (wV x.g.us l))):=by have:=lT (hx.g.uf f (z8 hfi)) (Yn (l:=wV x.g.us l) (hwf.mono (by rw[hvl];omega)) (λq hq=>Q.fit x.g.us.length q (by rw[Q.v9];exact hq)));exact this.mono (by decide)
  (have c:=s35 (zI (f.at (xr (wV x.g.us l)))) (xQ (zX hft).n (by decide));rw[z7] at c;have hp:K1 x l d.i=f.at (xr (wV x.g.us l)):=by unfold K1;rw[hfi];rfl);refine⟨d.i.toNat,_,_,hi,by rw[vH,hg];rfl,c,λh3=>?_,λh4=>?_⟩
  {rw[r0,h,yU,if_neg oM,if_neg oM,if_pos h3,hp]};{rw[r0,h,yU,if_neg oM,if_neg oM,if_neg h4,hp]}
 have hXl:(l.map zI).length=x.g.n:=by rw[yN,hll]
 have hgn:x.q.g.n=(x.g.n:Int):=rfl;have hgg:x.g.g=x.q.g:=rfl;rw[hgg] at cp;clear r0 hres hl hx hok hz hv hgv hd hll hpl hgg;generalize (x.g.us.map λf=>f.at (xr (wV x.g.us l))).map zI=PV' at *;generalize l.map zI=X at *;generalize d.fits x.q=fb at *;generalize x.g.n=n at *;generalize x.q=Q at *;obtain⟨⟨gn,us,os⟩,⟨lo,hi,rows⟩,⟨ts,c⟩⟩:=Q;dsimp only at hgn;subst hgn;obtain⟨dk,di,dx⟩:=d;dsimp only at c34 c12;cbv;refine cA cf ?_;cbv;refine yH (λe1=>?_) (λe1=>?_)
 rotate_left
 ·have hr:=f1 e1;cbv
  (refine rC ?_;cbv)
  exact zN hr
 cbv;refine zH (λe=>?_) (λe=>(e (by rw[zB,hXl])).elim);cbv;refine zH (λe3=>?_) (λe3=>?_)
 ·obtain⟨i,q,z,hi',g1,c1,k3,k4⟩:=c34 e1 (.inl (by exact om));have hr:=k3 (by exact om);clear c34 c12;cbv;refine zP 10 (by cbv) ?_;cbv;refine vN g1 hi' w4 uC ?_;cbv;refine dA c1 ?_;cbv
  (refine rC ?_;cbv)
  exact z4 hr.symm
 cbv;refine zH (λe4=>?_) (λe4=>?_)
 ·obtain⟨i,q,z,hi',g1,c1,k3,k4⟩:=c34 e1 (.inr (by exact om));have hr:=k4 (by exact om);clear c34 c12;cbv;refine zP 10 (by cbv) ?_;cbv;refine vN g1 hi' w4 uC ?_;cbv;refine dA c1 ?_;cbv
  (refine rC ?_;cbv)
  exact z4 hr.symm
 obtain⟨i,p,z,hi',g1,c1,k1,k2⟩:=c12 e1 (by exact om);clear c34 c12;cbv;refine cA cp ?_;cbv;refine zH (λe5=>?_) (λe5=>?_)
 ·have hr:=k1 (by exact om);cbv;refine vN g1 hi' w4 uC ?_;cbv;refine cA c1 ?_;cbv
  (refine rC ?_;cbv)
  exact z4 hr.symm
 ·have hr:=k2 (by exact om);cbv;refine vN g1 hi' w4 uC ?_;cbv;refine cA c1 ?_;cbv
  (refine rC ?_;cbv)
  exact z4 hr.symm
def Jf (x:FQry) (path:List Dec) (l:List Rat):Bool:=JV x.r l&&path.all λd=>rQ x d l
def RD (x:FQry)(path:List Dec)(L:List Lem)(l:List Rat)(hx:x.small)(hok:x.ok)(hd:Dsz (2^20) path)(hl:InpOk x l):zE 18 [sv ⟨x.q,path,L⟩,rlv (l.map zI)] (zM (Jf x path l)):=by
 refine sF Tryz.f18 ?_;have hv:=hx.valid hok;have hz:=hx.sz;have cv:=Yr x.q (hz.mono (by decide));rw[hv] at cv;have hrv:x.r.g.valid (x.g.n:Int)=true:=by have:=hv;unfold Qry.valid at this;simp only[yS] at this;exact this.1.2
 have cc:=RH x.r l hx.r hrv (hz.r.mono (by decide)) hok.rows hl.len hx.g.n2 (m:=20) (by decide) hl.fit;have ch:=λ(d:Dec) (h:d∈path)=>C9 x d l hx hok (hd.sz d h) hl;have hpl:=hd.len;have hXl:(l.map zI).length=x.g.n:=by rw[yN,hl.len]
 generalize hres:Jf x path l=res;have r0:res=(JV x.r l&&path.all λd=>rQ x d l):=hres.symm;have r1:JV x.r l=false->res=false:=λh=>by rw[r0,h];rfl
 have r2:∀ d,d∈path->rQ x d l=false->res=false:=λd h h'=>by
  rw[r0];have:(path.all λd=>rQ x d l)=false:=by
   cases ha:path.all λd=>rQ x d l with
   |false=>rfl| true=>have:=gH.1 ha d h;rw[h'] at this;cases this
  rw[this,Bool.and_false]
 have r3:JV x.r l=true->(∀ (i:Nat) d,path[i]?=some d->rQ x d l=true)->res=true:=λh h'=>by rw[r0,h,yU,gH];intro d hd';obtain⟨i,hi⟩:=lE hd';exact h' i d hi
 have hgn:x.q.g.n=(x.g.n:Int):=rfl;have hrg:x.r.g=x.q.r:=rfl;rw[hrg] at cc;obtain⟨H,hH⟩:∃ H:Dec->Bool,∀ d,rQ x d l=H d:=⟨_,λ_=>rfl⟩;simp only[hH] at ch r2 r3;clear r0 hres hl hx hok hz hv hrv hd hrg hH;generalize JV x.r l=cb at *;generalize l.map zI=X at *;generalize x.g.n=n at *;generalize x.q=Q at *;obtain⟨⟨gn,us,os⟩,⟨lo,hi,rows⟩,⟨ts,c⟩⟩:=Q;dsimp only at hgn;subst hgn;cbv;refine cA cv ?_;cbv;refine Zy rfl ?_;cbv;refine wO (by rw[zB,hXl]) ?_;cbv;refine cA cc ?_;cbv;refine zS (λe1=>?_) (λe1=>?_)
 rotate_left
 ·have hr:=r1 e1;cbv
  (refine rC ?_;cbv)
  exact zN hr
 have r3':=r3 e1;clear r3 r1;cbv;refine zZ (σ:=Nat) (λi=>⟨[(1,rlv X),(2,.ptr 2 0),(5,iV i)],[(2,.box [iV n,alv us,alv os,rlv lo,rlv hi,alv rows,tsv ts,zM c.neg,nat c.num,nat c.den,dlv path,llv L])]⟩)
  (λi=>i<=path.length/\∀ (j:Nat) d,path[j]?=some d->j<i->H d=true) (λi=>path.length-i) 0 ⟨xK _,λj d _ h=>absurd h oM⟩ (wkZ) ?_
 intro i hi';obtain⟨hi1,hi2⟩:=hi';cbv;refine zH (λh=>?_) (λh=>?_)
 ·(have hlt:i<path.length:=by rw[zB] at h;exact om);obtain⟨d,hdi⟩:=zY hlt
  (have c1:=ch d (z8 hdi);have k1:=r2 d (z8 hdi);have hsucc:H d=true->∀ (j:Nat) d',path[j]?=some d'->j<i+1->H d'=true:=λhH' j d' hj hlt'=>by by_cases e:j=i;{rw[e,hdi] at hj;cases hj;exact hH'};{exact hi2 j d' hj oM});clear ch r2 r3' hi2;generalize H d=hb at *;cbv;refine zP 10 (by cbv) ?_;cbv;refine yT hdi aT tV ?_;cbv;refine dA c1 ?_;cbv;refine zS (λe2=>?_) (λe2=>?_)
  {have hs:=hsucc e2;cbv;exact⟨zF om om,i+1,⟨(by show i+1<=path.length;omega),hs⟩,(by show path.length-(i+1)<path.length-i;omega),wkZ⟩}
  ·have hr:=k1 e2;cbv
   (refine rC ?_;cbv)
   exact zN hr
 have hr:=r3' (λj d hj=>hi2 j d hj (by have:=(wI.1 hj).1;rw[zB] at h;exact om));cbv
 (refine rC ?_;cbv)
 exact yL hr
def FJ {a b:Rat}(h:0<=wN a b):b<=a:=by unfold wN at h;split at h <;> (try split at h) <;> grind
def JY {a b:Rat}(h:wN a b<=0):a<=b:=by unfold wN at h;split at h <;> (try split at h) <;> grind
def GN {a:Rat}(h:0<=yF a):0<=a:=by unfold yF at h;split at h <;> (try split at h) <;> grind
def CL {a:Rat}(h:yF a<=0):a<=0:=by unfold yF at h;split at h <;> (try split at h) <;> grind
def MW {x:FQry}{path:List Dec}{L:List Lem}{l:List Rat}(hx:x.small)(hok:x.ok)(hl:InpOk x l)(h:Jf x path l=true):Pt ⟨x.q,path,L⟩ (xr (wV x.g.us l)):=by
 unfold Jf JV at h;simp only[yS] at h;obtain⟨⟨h1,h2⟩,h3⟩:=h;have hX:∀ i:Nat,i<x.g.n->xr (wV x.g.us l) i=xr l i:=λi hi=>by unfold xr;rw[kN,oG _ _ _ (by rw[hl.len];exact hi)]
 have hget:∀ i:Nat,i<x.g.n->∃ q,l[i]?=some q/\xr (wV x.g.us l) i=q:=λi hi=>by obtain⟨q,hq⟩:=zY (l:=l) (i:=i) (by rw[hl.len];exact hi);exact⟨q,hq,by rw[hX i hi];exact ZG hq⟩
 have hbl:=hx.r.bs;have hwu:=hok.us;have hun:∀ (i:Nat) f,x.g.us[i]?=some f->xr (wV x.g.us l) ((x.g.n:Int)+i)=l8 (f.at (xr (wV x.g.us l))) 0:=λi f hf=>by
  (have:=VU (us:=x.g.us) (l:=l) (λi f h=>by rw[hl.len];exact hwu i f h) hf;rw[hl.len] at this;have e:(x.g.n:Int)+i=((x.g.n+i:Nat):Int):=by omega);rw[e]
  exact ZG this
 have hus:∀ (i:Nat) p,x.q.g.us[i]?=some p->∃ f,x.g.us[i]?=some f/\p=fA f:=λi p hp=>by
  have hp':(x.g.us.map fA)[i]?=some p:=hp;rw[vH] at hp';cases hf:x.g.us[i]? with
  |none=>rw[hf] at hp';cases hp'
  |some f=>rw[hf] at hp';cases hp';exact⟨f,rfl,rfl⟩
 have hhold:∀ d,d∈path->rQ x d l=true:=λd hd=>gH.1 h3 d hd;have hpre:∀ (i:Nat) p,x.q.g.us[i]?=some p->K1 x l i=p.f.at (xr (wV x.g.us l)):=λi p hp=>by obtain⟨f,hf,rfl⟩:=hus i p hp;unfold K1;rw[kN,hf,kQ];rfl
 refine⟨λi y hy=>?_,λi y hy=>?_,λi f hf=>?_,λi p hp=>?_,λd hd hf hk=>?_,λd hd hf hk=>?_,λd hd hf hk i p hi hp=>?_,λd hd hf hk i p hi hp=>?_⟩
 ·have hy':(x.r.bs.map λb=>zI b.1)[i]?=some y:=hy;rw[vH] at hy';cases hb:x.r.bs[i]? with
  |none=>rw[hb] at hy';cases hy'
  |some b =>
   rw[hb] at hy';cases hy';have hlt:=(wI.1 hb).1;obtain⟨q,hq,hqx⟩:=hget i oM;rw[hqx,z7];exact FJ (Y5 h1 i b q hb hq).1
 ·have hy':(x.r.bs.map λb=>zI b.2)[i]?=some y:=hy;rw[vH] at hy';cases hb:x.r.bs[i]? with
  |none=>rw[hb] at hy';cases hy'
  |some b =>
   rw[hb] at hy';cases hy';have hlt:=(wI.1 hb).1;obtain⟨q,hq,hqx⟩:=hget i oM;rw[hqx,z7];exact JY (Y5 h1 i b q hb hq).2
 ·have hf':(x.r.rows.map fA)[i]?=some f:=hf;rw[vH] at hf';cases hb:x.r.rows[i]? with
  |none=>rw[hb] at hf';cases hf'
  |some b =>
   rw[hb] at hf';cases hf';rw[kQ];have hmem:=z8 hb;have hw:=hok.rows b hmem;rw[<-hl.len] at hw;rw[Ce (us:=x.g.us) hw];unfold XO at h2;exact GN (of_decide_eq_true (gH.1 h2 b hmem))
 {obtain⟨f,hf,rfl⟩:=hus i p hp;have e:=hun i f hf;have e':x.q.g.n+(i:Int)=(x.g.n:Int)+i:=rfl;show 0<=xr _ (x.q.g.n+(i:Int))/\_<=xr _ (x.q.g.n+(i:Int))/\(xr _ (x.q.g.n+(i:Int))=0\/xr _ (x.q.g.n+(i:Int))=_);rw[e',e,kQ];unfold l8;split <;> grind}
 ·(have hh:=hhold d hd;unfold rQ at hh;rw[hf,yU,if_pos hk] at hh;obtain⟨g1,g2⟩:=Gi hf (.inl hk);have e:d.i=((d.i.toNat:Nat):Int):=by omega);have:=FJ (of_decide_eq_true hh)
  rw[e] at this ⊢;rw[hX _ oM];exact this
 ·(have hh:=hhold d hd;unfold rQ at hh;rw[hf,yU,if_neg oM,if_pos hk] at hh;obtain⟨g1,g2⟩:=Gi hf (.inr hk);have e:d.i=((d.i.toNat:Nat):Int):=by omega);have:=JY (of_decide_eq_true hh)
  rw[e] at this ⊢;rw[hX _ oM];exact this
 {have hh:=hhold d hd;unfold rQ at hh;rw[hf,yU,if_neg oM,if_neg oM,if_pos hk,hi,hpre i p hp] at hh;exact GN (of_decide_eq_true hh)};{have hh:=hhold d hd;unfold rQ at hh;rw[hf,yU,if_neg oM,if_neg oM,if_neg oM,hi,hpre i p hp] at hh;exact CL (of_decide_eq_true hh)}
def JW {N:Int}:∀ {ts:List (Int×Rat)} {lo:Int},Cn ts->(∀ t,t∈ts->lo<=t.1/\t.1<N)->(ts.length:Int)<=max 0 (N-lo)
 |[],lo,_,_=>by simp;omega| t::r,lo,hc,h=>by have h1:=h t wZ;have:=JW (ts:=r) (lo:=t.1+1) hc.tail (λu hu=>⟨by have:=hc.lt u hu;omega,(h u (wJ _ hu)).2⟩);rw[d5];omega
def Gp {a b:Rat}(h:a<=b):wN a b<=0:=by unfold wN;split <;> (try split) <;> grind
def Gq {a b:Rat}(h:b<=a):0<=wN a b:=by unfold wN;split <;> (try split) <;> grind
def Hx {a:Rat}(h:0<=a):0<=yF a:=by unfold yF;split <;> (try split) <;> grind
theorem F.wf.short {f:F}{n:Nat}(h:f.wf (n:Int)):f.ts.length<=n:=by have:=JW (lo:=0) h.cn h.v;omega
def M3 (raw at':List UInt8):InpOk (fdY raw 0).1 (rE at' 0 (fdY raw 0).1.r.bs):=by have hx:=vD raw 0;exact⟨by rw[Wy];exact hx.r.bs,Uz hx.r.bf⟩
structure PtF (raw:List UInt8) (l:List Rat) (PRE:List R) (VV:List R):Prop where
 lem:∀ i,i<(fdS raw).bounded.lems.length->∃ (m:Lem) (u:Nat) (p:R) (z:Int),(fdS raw).bounded.lems[i]?=some m/\m.u=(u:Int)/\PRE[u]?=some p/\zE 47 [rv p,rv m.v] (iV z)/\(m.up=true->z<=0)/\(m.up=false->0<=z)
 val:zE 19 [gv (fdS raw).bounded.q.g,rlv (l.map zI)] (.tup [rlv VV,iV 0])
 pre:zE 106 [gv (fdS raw).bounded.q.g,rlv (l.map zI)] (.tup [rlv PRE,iV 0])
def XZ (raw:List UInt8):(fdY raw 0).1.g.g.valid=true:=by have:=(vD raw 0).valid (nF raw 0);unfold Qry.valid at this;simp only[yS] at this;exact this.1.1
def BF {raw:List UInt8}{l:List Rat}(hl:InpOk (fdY raw 0).1 l)(hm:Jf (fdY raw 0).1 (fdS raw).path l=true):Pt (fdS raw).bounded (xr (wV (fdY raw 0).1.g.us l))/\p6 (fdS raw).bounded (xr (wV (fdY raw 0).1.g.us l))/\PtF raw l (((fdY raw 0).1.g.us.map λf=>f.at (xr (wV (fdY raw 0).1.g.us l))).map zI) ((wV (fdY raw 0).1.g.us l).map zI):=by
 have hx:=vD raw 0;have hok:=nF raw 0;have hz:=hx.sz;have hP:Pt (fdS raw).bounded (xr (wV (fdY raw 0).1.g.us l)):=MW (L:=(fdS raw).bounded.lems) hx hok hl hm;have hS:=iQ raw;have hL:=KM hP hS;refine⟨hP,hL,⟨λi hi=>?_,KU _ l hx.g (XZ raw) (hz.g.mono (by decide)) hok.us hl.len (m:=20) (by decide) (by decide) hl.fit,G4 _ l hx.g (XZ raw) (hz.g.mono (by decide)) hok.us hl.len (m:=20) (by decide) (by decide) hl.fit⟩⟩;obtain⟨m,hmi⟩:=zY hi;have hmem:=z8 hmi;have hlb:∃ pre:Scp,pre.q=(fdS raw).bounded.q/\pre.lemB m=true:=by
  unfold Scp.scopeB at hS;simp only[yS] at hS;have key:∀ (k:Nat) (r:List Lem),r=(fdS raw).bounded.lems.drop k->jG (fdS raw).bounded k r=true->∀ (j:Nat) (m:Lem),r[j]?=some m->∃ pre:Scp,pre.q=(fdS raw).bounded.q/\pre.lemB m=true:=by
   intro k r;induction r generalizing k with
   |nil=>intro _ _ j m h;simp at h| cons a r ih =>
    intro hr hf j m h;unfold jG at hf;simp only[yS] at hf;cases j with
    |zero =>
     simp only[rV,rF] at h;subst h;exact⟨(fdS raw).bounded.pre k,rfl,hf.1⟩
    |succ j =>
     (simp only[aA] at h;refine ih (k+1) ?_ hf.2 j m h;have:((fdS raw).bounded.lems.drop k).drop 1=(fdS raw).bounded.lems.drop (k+1):=by rw[eT]);rw[<-this,<-hr];rfl
  exact key 0 _ (by simp) hS.2.2 i m hmi
 obtain⟨pre,hpq,hlb⟩:=hlb;unfold Scp.lemB at hlb;simp only[yS,decide_eq_true_eq] at hlb;obtain⟨⟨u0,u1⟩,_⟩:=hlb;rw[hpq] at u1;have hul:(fdS raw).bounded.q.g.us.length=(fdY raw 0).1.g.us.length:=by show (List.map _ _).length=_;rw[yN]
 rw[hul] at u1;obtain⟨f,hf⟩:=zY (l:=(fdY raw 0).1.g.us) (i:=m.u.toNat) oM;have hu:m.u=((m.u.toNat:Nat):Int):=by omega
 have hgu:(fdS raw).bounded.q.g.us[m.u.toNat]?=some (fA f):=by show ((fdY raw 0).1.g.us.map fA)[m.u.toNat]?=_;rw[vH,hf];rfl
 have hlm:=hL m hmem m.u.toNat (fA f) hu hgu;rw[kQ] at hlm;obtain⟨V,Q⟩:=F7 hx.g hok.us hl.len (m:=20) (by decide) (by decide) hl.fit;have hvl:(wV (fdY raw 0).1.g.us l).length=(fdY raw 0).1.g.n+(fdY raw 0).1.g.us.length:=by rw[sD,hl.len]
 have hlt:=(wI.1 hf).1;have hft:Fits (2^28) (f.at (xr (wV (fdY raw 0).1.g.us l))):=by have:=lT (hx.g.uf f (z8 hf)) (Yn (l:=wV (fdY raw 0).1.g.us l) ((hok.us _ f hf).mono (by rw[hvl];omega)) (λq hq=>Q.fit (fdY raw 0).1.g.us.length q (by rw[Q.v9];exact hq)));exact this.mono (by decide)
 have c:=s42 (zI (f.at (xr (wV (fdY raw 0).1.g.us l)))) m.v ((zX hft).mono (by decide)) (((eN raw).lems.sz m hmem).mono (by decide));rw[z7] at c;refine⟨m,m.u.toNat,_,_,hmi,hu,by rw[vH,vH,hf];rfl,c,λh=>?_,λh=>?_⟩;{rw[if_pos h] at hlm;exact Gp hlm};{rw[if_neg (by rw[h];decide)] at hlm;exact Gq hlm}
def RU {raw:List UInt8}{l:List Rat}(hl:InpOk (fdY raw 0).1 l){f:F}(hw:f.wf (((fdY raw 0).1.g.n+(fdY raw 0).1.g.us.length:Nat):Int)){k n:Nat}(hf:f.fl k n)(hk:k<=2^26)(h0:0<=f.at (xr (wV (fdY raw 0).1.g.us l))):∃ (y:R) (z:Int),zE 46 [av (fA f),rlv ((wV (fdY raw 0).1.g.us l).map zI)] (.tup [rv y,iV 0])/\zE 26 [rv y] (iV z)/\0<=z:=by
 have hx:=vD raw 0;have hok:=nF raw 0;obtain⟨V,Q⟩:=F7 hx.g hok.us hl.len (m:=20) (by decide) (by decide) hl.fit;have hvl:(wV (fdY raw 0).1.g.us l).length=(fdY raw 0).1.g.n+(fdY raw 0).1.g.us.length:=by rw[sD,hl.len]
 have n2:=hx.g.n2;have u4:=hx.g.us;have hfit:∀ q,q∈wV (fdY raw 0).1.g.us l->Fits (2^24) q:=λq hq=>Q.fit (fdY raw 0).1.g.us.length q (by rw[Q.v9];exact hq);have hsh:=hw.short;have hf7:f.fl (2^26) 7:=⟨λt ht=>(hf.t t ht).mono hk,hf.c.mono hk,by omega⟩;rw[<-hvl] at hw;have c:=GX f _ hf7 hw hfit (by decide) (by decide) (by decide) (by decide) oM;have ht:=lT hf7 (Yn hw hfit);have cs:=s35 (zI (f.at (xr (wV (fdY raw 0).1.g.us l)))) (xQ (zX ht).n (by decide));rw[z7] at cs;exact⟨_,_,c,cs,Hx h0⟩
def Rx (s:Scp)(unit:Int)(hs:Lsz (2^20) s.lems):zE 138 [sv s,iV unit] (.tup [iV (((s.best unit).1:Int)),iV (((s.best unit).2:Int))]):=by
 refine sF Tryz.f138 ?_;have hll:=hs.len;obtain⟨⟨⟨gn,us,os⟩,⟨lo,hi,rows⟩,⟨ts,c1,c2,c3⟩⟩,path,L⟩:=s;dsimp only at hs hll;have cc:∀ m m',m∈L->m'∈L->zE 45 [rv m.v,rv m'.v] (iV (wN m.v.q m'.v.q)):=λm m' h h'=>ME m.v m'.v ((hs.sz m h).mono (by decide)) ((hs.sz m' h').mono (by decide));have hst:∀ n m r b,gG L unit n (m::r) b=gG L unit (n+1) r (if m.u=unit then (if m.up=true then (if b.2=0\/wN m.v.q (wP L b.2)<0 then (b.1,n+1) else b) else (if b.1=0\/0<wN m.v.q (wP L b.1) then (n+1,b.2) else b)) else b):=λ_ _ _ _=>rfl;have hva:∀ k m,L[k-1]?=some m->wP L k=m.v.q:=λk m h=>by unfold wP;rw[h];rfl
 have hni:∀ n b,gG L unit n [] b=b:=λ_ _=>rfl;have hgoal:((⟨⟨⟨gn,us,os⟩,⟨lo,hi,rows⟩,⟨ts,c1,c2,c3⟩⟩,path,L⟩:Scp).best unit)=gG L unit 0 L (0,0):=rfl;rw[hgoal];obtain⟨B,hB⟩:=ex (gG L unit 0 L (0,0));rw[hB];obtain⟨B1,B2⟩:=B;dsimp only;generalize gG L unit=BG at *;clear hgoal;cbv;refine zZ (σ:=Nat×Nat×Nat) (λst=>⟨[(1,iV unit),(2,.ptr 2 0),(6,iV st.2.1),(7,iV st.2.2),(11,llv L),(12,iV (((enc lc L).length:Int))),(13,iV st.1)],[(2,.box [iV gn,alv us,alv os,rlv lo,rlv hi,alv rows,tsv ts,zM c1,nat c2,nat c3,dlv path,llv L])]⟩)
  (λst=>st.1<=L.length/\BG st.1 (L.drop st.1) st.2=(B1,B2)/\st.2.1<=L.length/\st.2.2<=L.length) (λst=>L.length-st.1)
  (0,0,0) ⟨by show 0<=_;omega,hB,xK _,xK _⟩ (wkZ) ?_
 intro st hst';obtain⟨i,b1,b2⟩:=st;obtain⟨h1,h2,h3,h4⟩:=hst';dsimp only at h1 h2 h3 h4;clear hB;cbv;refine zH (λh5=>?_) (λh5=>?_)
 ·(rw[zB] at h5;have hlt:i<L.length:=by exact om);obtain⟨m,hm⟩:=zY hlt
  (have hmem:=z8 hm;rw[yI hm,hst] at h2;have idx:∀ {K:List PV->Prop},K (lc m)->IdxOk 6 (λ_=>enc lc L) (λ_=>(i:Int)) K:=λhK=>vN hm oM qI jO hK;have hin:∀ k:Nat,k<=L.length->¬k=0->∃ m',m'∈L/\wP L k=m'.v.q/\∀ {K:List PV->Prop},K (lc m')->IdxOk 6 (λ_=>enc lc L) (λ_=>(k:Int)-1) K:=λk hk h0=>by obtain⟨m',hm'⟩:=zY (l:=L) (i:=k-1) oM;exact⟨m',z8 hm',hva k m' hm',λhK=>vN hm' oM qI jO hK⟩);clear hst hva;cbv;refine idx ?_;cbv;refine zH (λe1=>?_) (λe1=>?_)
  ·rw[if_pos e1] at h2;cbv;refine zS (λe2=>?_) (λe2=>?_)
   ·rw[if_pos e2] at h2;cbv;refine zP 15 (by cbv) ?_;cbv;refine zU (λe3=>?_) (λe3=>?_)
    ·(have e3':b2=0:=by exact om);rw[if_pos (.inl e3')] at h2
     cbv;exact⟨zF om om,zF om om,(i+1,b1,(i+1)),⟨om,h2,(by show b1<=_;omega),(by show (i+1)<=_;omega)⟩,om,wkZ⟩
    (have e3':¬b2=0:=by exact om);obtain⟨m',hm',hv',idx'⟩:=hin b2 h4 e3'
    have cx:=cc m m' hmem hm';rw[hv'] at h2;generalize wN m.v.q m'.v.q=x at *;cbv;refine⟨zF om om,idx' ?_⟩;cbv;refine dA cx ?_;cbv;refine zH (λe5=>?_) (λe5=>?_);{rw[if_pos (.inr e5)] at h2;cbv;exact⟨zF om om,zF om om,(i+1,b1,(i+1)),⟨om,h2,(by show b1<=_;omega),(by show (i+1)<=_;omega)⟩,om,wkZ⟩};{rw[if_neg (λh=>h.elim e3' e5)] at h2;cbv;exact⟨zF om om,(i+1,b1,b2),⟨om,h2,(by show b1<=_;omega),(by show b2<=_;omega)⟩,om,wkZ⟩}
   ·rw[if_neg (by rw[e2];decide)] at h2;cbv;refine zP 15 (by cbv) ?_;cbv;refine zU (λe3=>?_) (λe3=>?_)
    ·(have e3':b1=0:=by exact om);rw[if_pos (.inl e3')] at h2
     cbv;exact⟨zF om om,zF om om,(i+1,(i+1),b2),⟨om,h2,(by show (i+1)<=_;omega),(by show b2<=_;omega)⟩,om,wkZ⟩
    (have e3':¬b1=0:=by exact om);obtain⟨m',hm',hv',idx'⟩:=hin b1 h3 e3'
    have cx:=cc m m' hmem hm';rw[hv'] at h2;generalize wN m.v.q m'.v.q=x at *;cbv;refine⟨zF om om,idx' ?_⟩;cbv;refine dA cx ?_;cbv;refine zH (λe5=>?_) (λe5=>?_);{rw[if_pos (.inr e5)] at h2;cbv;exact⟨zF om om,zF om om,(i+1,(i+1),b2),⟨om,h2,(by show (i+1)<=_;omega),(by show b2<=_;omega)⟩,om,wkZ⟩};{rw[if_neg (λh=>h.elim e3' e5)] at h2;cbv;exact⟨zF om om,(i+1,b1,b2),⟨om,h2,(by show b1<=_;omega),(by show b2<=_;omega)⟩,om,wkZ⟩}
  {rw[if_neg e1] at h2;cbv;exact⟨zF om om,(i+1,b1,b2),⟨om,h2,(by show b1<=_;omega),(by show b2<=_;omega)⟩,om,wkZ⟩}
 ·(have hi:i=L.length:=by rw[zB] at h5;exact om);rw[hi,w5,hni] at h2
  obtain⟨q1,q2⟩:=Prod.mk.inj h2;subst q1 q2;cbv;exact rA
def Lg (s:Scp)(j:Int)(hs:s.sz (2^20)):zE 139 [sv s,iV j,iV (((s.best j).1:Int)),iV (((s.best j).2:Int))] (.tup [zM (s.onU j),zM (s.offU j)]):=by
 refine sF Tryz.f139 ?_;have cd1:=ZP s 1 j (hs.path.mono (by decide));have cd2:=ZP s 2 j (hs.path.mono (by decide));have csg:∀ m,m∈s.lems->zE 81 [rv m.v] (iV (yF m.v.q)):=λm hm=>s86 m.v (by have:=(hs.lems.sz m hm).n;omega);have hlen:=hs.lems.len;have hbb:∀ k:Nat,(k=(s.best j).1\/k=(s.best j).2)->k≠0->∃ m,s.lems[k-1]?=some m/\k-1<s.lems.length:=λk hk h0=>by obtain⟨m,hm,_⟩:=sA hk h0;exact⟨m,hm,(wI.1 hm).1⟩
 have hb1:=hbb _ (.inl rfl);have hb2:=hbb _ (.inr rfl);clear hbb;have hv:∀ (k:Nat) m,s.lems[k-1]?=some m->wP s.lems k=m.v.q:=λk m h=>by unfold wP;rw[h];rfl
 have hon:s.onU j=(s.dcd 1 j || (decide (0<(s.best j).1)&&decide (0<=yF (wP s.lems (s.best j).1)))):=rfl;have hoff:s.offU j=(s.dcd 2 j || (decide (0<(s.best j).2)&&decide (yF (wP s.lems (s.best j).2)<=0))):=rfl;generalize s.onU j=on at *;generalize s.offU j=off at *;generalize s.dcd 1 j=d1 at *;generalize s.dcd 2 j=d2 at *;generalize (s.best j).1=b1 at *;generalize (s.best j).2=b2 at *;have o11:d1=true->on=true:=λh=>by rw[hon,h];rfl
 have o12:d1=false->b1=0->on=false:=λh g=>by rw[hon,h,g];rfl
 have o13:d1=false->∀ m,s.lems[b1-1]?=some m->0<b1->on=decide (0<=yF m.v.q):=λh m hm g=>by rw[hon,h,hv b1 m hm,decide_eq_true g];rfl
 have o21:d2=true->off=true:=λh=>by rw[hoff,h];rfl
 have o22:d2=false->b2=0->off=false:=λh g=>by rw[hoff,h,g];rfl
 have o23:d2=false->∀ m,s.lems[b2-1]?=some m->0<b2->off=decide (yF m.v.q<=0):=λh m hm g=>by rw[hoff,h,hv b2 m hm,decide_eq_true g];rfl
 clear hon hoff hv hs;obtain⟨⟨⟨gn,us,os⟩,⟨lo,hi,rows⟩,⟨ts,c1,c2,c3⟩⟩,path,L⟩:=s;dsimp only at csg hlen hb1 hb2 o13 o23;cbv;refine cA cd1 ?_;cbv;refine yH (λeA=>?_) (λeA=>?_)
 ·have qA:=o11 eA;cbv;refine cA cd2 ?_;cbv;refine yH (λeB=>?_) (λeB=>?_)
  ·have qB:=o21 eB;cbv
   (refine rC ?_;cbv)
   exact⟨yL qA,yL qB,trivial⟩
  ·cbv;refine zU (λfB=>?_) (λfB=>?_)
   ·(have gB:b2≠0:=by exact om);obtain⟨mB,hmB,hlB⟩:=hb2 gB
    have qB:=o23 eB mB hmB oM;have csB:=csg mB (z8 hmB);have ixB:∀ {K:List PV->Prop},K (lc mB)->IdxOk 6 (λ_=>enc lc L) (λ_=>(b2:Int)-1) K:=λhK=>vN hmB oM qI jO hK;generalize yF mB.v.q=sgB at *;cbv;refine⟨zF (by exact om) (by exact om),ixB ?_⟩;cbv;refine cA csB ?_;cbv
    (refine rC ?_;cbv)
    exact⟨yL qA,z4 qB.symm,trivial⟩
   ·have qB:=o22 eB (by exact om);cbv
    (refine rC ?_;cbv)
    exact⟨yL qA,zN qB,trivial⟩
 ·cbv;refine zU (λfA=>?_) (λfA=>?_)
  ·(have gA:b1≠0:=by exact om);obtain⟨mA,hmA,hlA⟩:=hb1 gA
   have qA:=o13 eA mA hmA oM;have csA:=csg mA (z8 hmA);have ixA:∀ {K:List PV->Prop},K (lc mA)->IdxOk 6 (λ_=>enc lc L) (λ_=>(b1:Int)-1) K:=λhK=>vN hmA oM qI jO hK;generalize yF mA.v.q=sgA at *;cbv;refine⟨zF (by exact om) (by exact om),ixA ?_⟩;cbv;refine cA csA ?_;cbv;refine cA cd2 ?_;cbv;refine yH (λeB=>?_) (λeB=>?_)
   ·have qB:=o21 eB;cbv
    (refine rC ?_;cbv)
    exact⟨z4 qA.symm,yL qB,trivial⟩
   ·cbv;refine zU (λfB=>?_) (λfB=>?_)
    ·(have gB:b2≠0:=by exact om);obtain⟨mB,hmB,hlB⟩:=hb2 gB
     have qB:=o23 eB mB hmB oM;have csB:=csg mB (z8 hmB);have ixB:∀ {K:List PV->Prop},K (lc mB)->IdxOk 6 (λ_=>enc lc L) (λ_=>(b2:Int)-1) K:=λhK=>vN hmB oM qI jO hK;generalize yF mB.v.q=sgB at *;cbv;refine⟨zF (by exact om) (by exact om),ixB ?_⟩;cbv;refine cA csB ?_;cbv
     (refine rC ?_;cbv)
     exact⟨z4 qA.symm,z4 qB.symm,trivial⟩
    ·have qB:=o22 eB (by exact om);cbv
     (refine rC ?_;cbv)
     exact⟨z4 qA.symm,zN qB,trivial⟩
  ·have qA:=o12 eA (by exact om);cbv;refine cA cd2 ?_;cbv;refine yH (λeB=>?_) (λeB=>?_)
   ·have qB:=o21 eB;cbv
    (refine rC ?_;cbv)
    exact⟨zN qA,yL qB,trivial⟩
   ·cbv;refine zU (λfB=>?_) (λfB=>?_)
    ·(have gB:b2≠0:=by exact om);obtain⟨mB,hmB,hlB⟩:=hb2 gB
     have qB:=o23 eB mB hmB oM;have csB:=csg mB (z8 hmB);have ixB:∀ {K:List PV->Prop},K (lc mB)->IdxOk 6 (λ_=>enc lc L) (λ_=>(b2:Int)-1) K:=λhK=>vN hmB oM qI jO hK;generalize yF mB.v.q=sgB at *;cbv;refine⟨zF (by exact om) (by exact om),ixB ?_⟩;cbv;refine cA csB ?_;cbv
     (refine rC ?_;cbv)
     exact⟨zN qA,z4 qB.symm,trivial⟩
    ·have qB:=o22 eB (by exact om);cbv
     (refine rC ?_;cbv)
     exact⟨zN qA,zN qB,trivial⟩
end Go.Proofs.YtboocdbmnfjomaaGreat
