/- A part of the proof: RdA, RdB, LwA, LwB, PlD, BrA, BrB, SpA, SpB. -/
import Derived.Test.YtaeaffgjdcigoaaGreatC26
import Derived.Test.YtaeaffgjdcigoaaGreatC24
import Derived.Test.YtaeaffgjdcigoaaGreatC21
import Derived.Test.YtaeaffgjdcigoaaGreatRows
import Derived.Deep.Slices
import Derived.Deep.Strs
import Derived.Lib.SmallJoins
import Derived.KernelRfl
import Derived.ProofKit
import Derived.OpenShut
import Derived.ReadAgain
import Derived.ChangeStays
import Derived.Test.YtaeaffgjdcigoaaGreatC20
set_option linter.all false
namespace Go.Proofs.YtaeaffgjdcigoaaGreat
open Go
set_option maxRecDepth 100000
set_option maxHeartbeats 2000000
def vS (a b:Row):Bool:=if a.k=b.k then (if a.i=b.i then (if a.lo=b.lo then decide (a.hi<b.hi) else decide (a.lo<b.lo)) else decide (a.i<b.i)) else decide (a.k<b.k)
theorem zFZ (a b:Row):vS a b=decide (dS a b<0):=by unfold vS dS orI cI;rw[bQ];split <;> (try split) <;> (try split) <;> simp only[decide_eq_true_eq] <;> (repeat' split) <;> omega
theorem zWS (a b:Row):zE 173 [rwv a,rwv b] (.bool (fun _=>vS a b)):=by
 refine sF Tryz.f173 ?_;have h1:¬a.k=b.k->vS a b=decide (a.k<b.k):=fun h=>if_neg h;have h2:a.k=b.k->¬a.i=b.i->vS a b=decide (a.i<b.i):=fun h g=>by unfold vS;rw[if_pos h,if_neg g]
 have h3:a.k=b.k->a.i=b.i->¬a.lo=b.lo->vS a b=decide (a.lo<b.lo):=fun h g e=>by unfold vS;rw[if_pos h,if_pos g,if_neg e]
 have h4:a.k=b.k->a.i=b.i->a.lo=b.lo->vS a b=decide (a.hi<b.hi):=fun h g e=>by unfold vS;rw[if_pos h,if_pos g,if_pos e]
 generalize vS a b=r at *
 cbv;refine zG (fun e1=>?_) (fun e1=>?_)
 ·cbv;refine zG (fun e2=>?_) (fun e2=>?_)
  ·cbv;refine zG (fun e3=>?_) (fun e3=>?_)
   ·have h:=h4 e1 e2 e3;cbv
    (refine rC ?_;cbv)
    exact zV h.symm
   ·have h:=h3 e1 e2 e3;cbv
    (refine rC ?_;cbv)
    exact zV h.symm
  ·have h:=h2 e1 e2;cbv
   (refine rC ?_;cbv)
   exact zV h.symm
 ·have h:=h1 e1;cbv
  (refine rC ?_;cbv)
  exact zV h.symm
theorem zYI (l:List Mult)(hl:Msz (2^32) l):zE 199 [mlv l] (.bool (fun _=>kH none l)):=by
 refine sF Tryz.f199 ?_;have hll:=hl.len;have hls:=hl.sz;generalize hr:kH none l=r;cbv;refine z3 (σ:=Nat×Option Row) (fun s=>⟨[(0,mlv l),(3,.int .i64 (fun _=>(s.1:Int)))],[]⟩)
  (fun s=>s.1<=l.length/\r=kH s.2 (l.drop s.1)/\(s.1=0->s.2=none)/\(s.1≠0->∃ u,l[s.1-1]?=some u/\s.2=some u.row)) (fun s=>l.length-s.1)
  (0,none) ⟨om,hr.symm,fun _=>rfl,fun h=>absurd rfl h⟩ (.le ?_ ?_ rfl) ?_
 {cbv;exact okA};{cbv};clear hr;intro s hs;obtain⟨h1,hv,h3,h4⟩:=hs;generalize s.1=i at *
 generalize s.2=p at *
 cbv;refine zG (fun h5=>?_) (fun h5=>?_)
 ·(have hlt:i<l.length:=by rw[zA] at h5;(try dsimp only [zF] at *);omega);obtain⟨t,ht⟩:=zT hlt
  (have idx:∀ {K:List PV->Prop},K (mc t)->IdxOk 7 (fun _=>enc mc l) (fun _=>(i:Int)) K:=fun hK=>xU (l:=l) i rfl hlt vP wA (fun m' hm'=>by rw[ht] at hm';cases hm';exact hK);have htz:=hls t (yA ht);have cs:=s35 t.c (by have:=htz.n;omega);have cv:=s129 t.c htz;have hd:l.drop i=t::l.drop (i+1):=zY ht;have hvn:(¬0<z4 t.c.q->r=false):=fun h=>by rw[hv,hd];unfold kH;rw[decide_eq_false h];rfl);have hvo:t.c.ok=false->r=false:=fun h=>by rw[hv,hd];unfold kH;rw[h];simp
  (have hv0:0<z4 t.c.q->t.c.ok=true->p=none->r=kH (some t.row) (l.drop (i+1)):=fun h g e=>by rw[hv,hd,e];show (decide (0<z4 t.c.q)&&(t.c.ok&&(true&&kH (some t.row) (l.drop (i+1)))))=_;rw[decide_eq_true h,g];simp);have hv1:∀ w,0<z4 t.c.q->t.c.ok=true->p=some w->r=(vS w t.row&&kH (some t.row) (l.drop (i+1))):=fun w h g e=>by rw[hv,hd,e,zFZ];show (decide (0<z4 t.c.q)&&(t.c.ok&&(decide (dS w t.row<0)&&kH (some t.row) (l.drop (i+1)))))=_;rw[decide_eq_true h,g];simp
  clear hv;generalize z4 t.c.q=sg at *
  generalize t.c.ok=ok at *
  generalize hrest:kH (some t.row) (l.drop (i+1))=rest at *
  cbv;refine zN 35 (by cbv) ?_;cbv;refine idx ?_;cbv;refine dA cv ?_;cbv;refine z7 (fun e2=>?_) (fun e2=>?_)
  rotate_left
  ·cbv
   (refine rC ?_;cbv)
   exact zM (hvo e2)
  cbv;refine idx ?_;cbv;refine dA cs ?_;cbv;refine zQ (fun e1=>?_) (fun e1=>?_)
  ·cbv
   (refine rC ?_;cbv)
   exact zM (hvn oM)
  cbv;refine zQ (fun e3=>?_) (fun e3=>?_)
  ·cbv;obtain⟨u,hu,hu2⟩:=h4 om;have cc:=zWS u.row t.row;have hvv:=hv1 u.row oM e2 hu2;generalize vS u.row t.row=cr at *
   (refine⟨zD om om,xU (l:=l) (i-1) om om vP wA (fun u' hu'=>?_)⟩;obtain rfl:u'=u:=by rw[hu] at hu';exact (vN hu').symm);cbv
   refine idx ?_;cbv;refine dA cc ?_;cbv;refine zP (fun e4=>?_) (fun e4=>?_);{rw[e4,yU] at hvv;cbv;exact⟨zD om om,(i+1,some t.row),⟨om,hvv.trans hrest.symm,fun h=>absurd h (by simp),fun _=>⟨_,ht,rfl⟩⟩,om,.le (by cbv;exact⟨lR,zC om,trivial⟩) (by cbv) rfl⟩}
   ·cbv
    (refine rC ?_;cbv)
    exact zM (by rw[hvv,e4];rfl)
  {cbv;have hvv:=hv0 oM e2 (h3 om);exact⟨zD om om,(i+1,some t.row),⟨om,hvv.trans hrest.symm,fun h=>absurd h (by simp),fun _=>⟨_,ht,rfl⟩⟩,om,.le (by cbv;exact⟨lR,zC om,trivial⟩) (by cbv) rfl⟩}
 ·(have:i=l.length:=by rw[zA] at h5;(try dsimp only [zF] at *);omega);rw[this,w4] at hv
  have hv':r=true:=hv;cbv
  (refine rC ?_;cbv)
  exact yN hv'
def plM (r:Row) (q:Rat):List (Row×Rat)->List (Row×Rat)
 |[]=>[(r,q)]| t::rest=>if vS t.1 r=true then t::plM r q rest else if t.1=r then (r,t.2+q)::rest else (r,q)::t::rest
def plMq (l:List (Row×Rat)) (r:Row) (q:Rat):List (Row×Rat):=if z4 q=0 then l else plM r q l
theorem zY9 {l:List (Row×Rat)}{i:Nat}{t:Row×Rat}(h:l[i]?=some t):(mR l)[i]?=some ⟨t.1,zJ t.2⟩:=by unfold mR;rw[bR,h];rfl
theorem zVU (l:List (Row×Rat))(n:Nat):(mR l).take n=mR (l.take n):=by simp[mR,zHD]
structure Mfit (k:Nat) (l:List (Row×Rat)):Prop where
 len:l.length<2^37
 fit:∀ t,t∈l->Fits k t.2
theorem zE6 {α:Type}{p:α->List PV}{n:Nat}(hn:∀ a,(p a).length=n)(l:List α)(a b:Nat):Wid n (fun _=>((enc p l).take a).drop b):=⟨fun e he=>(w6 hn l).h e (mZ (List.mem_of_mem_drop he))⟩
theorem sPlM (l:List (Row×Rat))(r:Row)(c:R)(hl:Mfit (2^30) l)(hc:c.sz (2^30)):zE 112 [mlv (mR l),rwv r,rv c] (mlv (mR (plMq l r c.q))):=by
 refine sF Tryz.f112 ?_;have cs:=s35 c (by have:=hc.n;omega);have cc:=s47 c (hc.mono (by decide));have hadd:∀ t,t∈l->zE 18 [rv (zJ t.2),rv c] (rv (zJ (t.2+c.q))):=fun t ht=>by have:=s44 (zJ t.2) c ((zU (hl.fit t ht)).mono (by decide)) (hc.mono (by decide));rw[z6] at this;exact this
 have hll:=hl.len;have d0:z4 c.q=0->plMq l r c.q=l:=fun h=>if_pos h;have d1:¬z4 c.q=0->plMq l r c.q=plM r c.q l:=fun h=>if_neg h;have hless:∀ t:Row×Rat,zE 173 [rwv t.1,rwv r] (.bool (fun _=>vS t.1 r)):=fun t=>zWS t.1 r;have hpn:plM r c.q []=[(r,c.q)]:=rfl;have hpc:∀ t rest,plM r c.q (t::rest)=if vS t.1 r=true then t::plM r c.q rest else if t.1=r then (r,t.2+c.q)::rest else (r,c.q)::t::rest:=fun _ _=>rfl
 obtain⟨G,hG⟩:∃ G,plM r c.q=G:=⟨_,rfl⟩;rw[hG] at d1 hpn hpc;generalize plMq l r c.q=M at *
 generalize z4 c.q=sg at *
 generalize hcq:c.q=q at *
 clear hG hl hc hcq;cbv;refine cA cs ?_;cbv;refine zG (fun e0=>?_) (fun e0=>?_)
 ·have hM:=d0 e0;cbv;subst hM
  (refine rC ?_;cbv)
  exact lR
 have hM:=d1 e0;clear d0 d1 cs;cbv;refine z3 (σ:=Nat) (fun i=>⟨[(0,mlv (mR l)),(4,.ptr 4 0),(5,.ptr 5 0),(7,.int .i64 (fun _=>(i:Int)))],[(4,.box (rwc r)),(5,.box [.bool (fun _=>c.neg),nat c.num,nat c.den])]⟩)
  (fun i=>i<=l.length/\M=l.take i++G (l.drop i)) (fun i=>l.length-i) 0 ⟨om,by rw[hM];rfl⟩ (.le ?_ ?_ rfl) ?_
 {cbv;exact okA};{cbv;exact okA};clear hM;intro i hi;obtain⟨h1,h2⟩:=hi;have hml:=j1 l;have wid:=w6 wA (mR (l.take i));have wid2:=w6 wA (mR l);by_cases hlt:i<l.length
 ·(obtain⟨t,ht⟩:=zT hlt;have hmem:=yA ht;have hdr:=zY ht;rw[hdr,hpc] at h2;have k1:vS t.1 r=true->M=l.take (i+1)++G (l.drop (i+1)):=fun h=>by rw[h2,if_pos h,tF,ht];simp);have k2:vS t.1 r=false->t.1=r->M=l.take i++([(r,t.2+q)]++l.drop (i+1)):=fun h g=>by rw[h2,if_neg (by rw[h];decide),if_pos g];rfl
  (have k3:vS t.1 r=false->¬t.1=r->M=l.take i++([(r,q)]++l.drop i):=fun h g=>by rw[h2,if_neg (by rw[h];decide),if_neg g,hdr];rfl);clear h2
  have cl:=hless t;have ca:=hadd t hmem;obtain⟨Y,hY⟩:∃ Y,zJ t.2=Y:=⟨_,rfl⟩;have hmt:=zY9 ht;rw[hY] at ca hmt;have idx:∀ {K:List PV->Prop},K (mc ⟨t.1,Y⟩)->IdxOk 7 (fun _=>enc mc (mR l)) (fun _=>(i:Int)) K:=fun hK=>xU (l:=mR l) i rfl oM vP wA (fun m' hm'=>by rw[hmt] at hm';cases hm';exact hK);generalize vS t.1 r=lt at *
  clear hless hadd hpc hpn;cbv;refine zN 13 (by cbv) ?_;cbv;refine uZ (by rw[zA];(try dsimp only [zF] at *);omega) ?_;cbv;refine idx ?_;cbv;refine dA cl ?_;cbv;refine zP (fun e1=>?_) (fun e1=>?_);{have hk:=k1 e1;cbv;exact⟨zD om om,i+1,⟨om,hk⟩,om,.le (by cbv;exact⟨lR,lR,lR,zC om,trivial⟩) (by cbv;exact okA) rfl⟩};have k2':=k2 e1;have k3':=k3 e1;clear k1 k2 k3 cl;cbv;refine⟨u9 om om (by rw[zA];(try dsimp only [zF] at *);omega),w6 wA _,?_⟩;refine mU fJ rfl rfl rfl rfl rfl rfl (zE6 wA _ _ _) (yD (by simp <;> omega) (by simp[zA,hml];(try dsimp only [zF] at *);omega)) rfl ?_;cbv;refine zN 13 (by cbv) ?_;cbv;refine uZ (by rw[zA];(try dsimp only [zF] at *);omega) ?_;cbv;refine idx ?_;cbv;refine zV3 ?_;cbv;refine zG (fun e2=>?_) (fun e2=>?_)
  ·have hk:=k2' e2;have hX:mR [(r,t.2+q)]=[⟨r,zJ (t.2+q)⟩]:=rfl;generalize zJ (t.2+q)=X at *
   cbv;refine zN 11 (by cbv) ?_;cbv;refine idx ?_;cbv;refine dA ca ?_;cbv;refine wE fJ rfl rfl rfl (by simp) rfl ⟨by simp[zS,wB]⟩ (yD (by simp[zS] <;> omega) (by simp[zS,zA,hml];(try dsimp only [zF] at *);omega)) rfl ?_;cbv;refine⟨zD om om,?_⟩;cbv;refine⟨u9 om (by rw[zA];(try dsimp only [zF] at *);omega) (by rw[zA];(try dsimp only [zF] at *);omega),w6 wA _,?_⟩;refine wE fJ rfl rfl rfl (by simp) rfl (zE6 wA _ _ _) (yD (by simp[zS] <;> omega) (by simp[zS,zA,hml];(try dsimp only [zF] at *);omega)) rfl ?_;cbv;refine tB _ (.trans (.le (ps':=⟨[(6,.osl 71 7 (fun _=>0) (fun _=>M.length))],[(71,.arr 7 (fun _=>enc mc (mR M)))]⟩) ?_ ?_ rfl) (.frz 71 rfl rfl ?_ ?_)) rfl ?_;{cbv;exact⟨yC rfl (by rw[hk];simp[zS,zA,hml];(try dsimp only [zF] at *);omega),trivial⟩};{cbv;refine⟨zI ?_,trivial⟩;rw[hk,zBW,zBW,<-gI,<-gI,hX];simp[enc,mR,zHD,zQK,yS,zS];rfl};{cbv;exact⟨z8 (by simp[zA,j1]),trivial⟩};{exact trivial};{cbv;exact zR (yS (by simp[zA,j1]))}
  ·have hk:=k3' e2;have hX:mR [(r,q)]=[⟨r,zJ q⟩]:=rfl;generalize zJ q=X at *
   cbv;refine zN 6 (by cbv) ?_;cbv;refine dA cc ?_;cbv;refine wE fJ rfl rfl rfl (by simp) rfl ⟨by simp[zS,wB]⟩ (yD (by simp[zS] <;> omega) (by simp[zS,zA,hml];(try dsimp only [zF] at *);omega)) rfl ?_;cbv;refine⟨u9 om (by rw[zA];(try dsimp only [zF] at *);omega) (by rw[zA];(try dsimp only [zF] at *);omega),w6 wA _,?_⟩;refine wE fJ rfl rfl rfl (by simp) rfl (zE6 wA _ _ _) (yD (by simp[zS] <;> omega) (by simp[zS,zA,hml];(try dsimp only [zF] at *);omega)) rfl ?_;cbv;refine tB _ (.trans (.le (ps':=⟨[(6,.osl 71 7 (fun _=>0) (fun _=>M.length))],[(71,.arr 7 (fun _=>enc mc (mR M)))]⟩) ?_ ?_ rfl) (.frz 71 rfl rfl ?_ ?_)) rfl ?_;{cbv;exact⟨yC rfl (by rw[hk];simp[zS,zA,hml];(try dsimp only [zF] at *);omega),trivial⟩};{cbv;refine⟨zI ?_,trivial⟩;rw[hk,zBW,zBW,<-gI,<-gI,hX];simp[enc,mR,zHD,zQK,yS,zS];rfl};{cbv;exact⟨z8 (by simp[zA,j1]),trivial⟩};{exact trivial};{cbv;exact zR (yS (by simp[zA,j1]))}
 ·(have hi':i=l.length:=by omega);have hk:M=l.take i++([(r,q)]++l.drop i):=by rw[h2,hi',w4,hpn];simp
  have hX:mR [(r,q)]=[⟨r,zJ q⟩]:=rfl;generalize zJ q=X at *
  clear h2 hpn hpc hless hadd;cbv;refine zN 13 (by cbv) ?_;cbv;refine z9 (by rw[zA];(try dsimp only [zF] at *);omega) ?_;cbv;refine⟨u9 om om (by rw[zA];(try dsimp only [zF] at *);omega),w6 wA _,?_⟩;refine mU fJ rfl rfl rfl rfl rfl rfl (zE6 wA _ _ _) (yD (by simp <;> omega) (by simp[zA,hml];(try dsimp only [zF] at *);omega)) rfl ?_;cbv;refine zN 13 (by cbv) ?_;cbv;refine z9 (by rw[zA];(try dsimp only [zF] at *);omega) ?_;cbv;refine zN 6 (by cbv) ?_;cbv;refine dA cc ?_;cbv;refine wE fJ rfl rfl rfl (by simp) rfl ⟨by simp[zS,wB]⟩ (yD (by simp[zS] <;> omega) (by simp[zS,zA,hml];(try dsimp only [zF] at *);omega)) rfl ?_;cbv;refine⟨u9 om (by rw[zA];(try dsimp only [zF] at *);omega) (by rw[zA];(try dsimp only [zF] at *);omega),w6 wA _,?_⟩;refine wE fJ rfl rfl rfl (by simp) rfl (zE6 wA _ _ _) (yD (by simp[zS] <;> omega) (by simp[zS,zA,hml];(try dsimp only [zF] at *);omega)) rfl ?_;cbv;refine tB _ (.trans (.le (ps':=⟨[(6,.osl 71 7 (fun _=>0) (fun _=>M.length))],[(71,.arr 7 (fun _=>enc mc (mR M)))]⟩) ?_ ?_ rfl) (.frz 71 rfl rfl ?_ ?_)) rfl ?_;{cbv;exact⟨yC rfl (by rw[hk];simp[zS,zA,hml];(try dsimp only [zF] at *);omega),trivial⟩};{cbv;refine⟨zI ?_,trivial⟩;rw[hk,zBW,zBW,<-gI,<-gI,hX];simp[enc,mR,zHD,zQK,yS,zS];rfl};{cbv;exact⟨z8 (by simp[zA,j1]),trivial⟩};{exact trivial};{cbv;exact zR (yS (by simp[zA,j1]))}
theorem zHV (r:Row)(q:Rat):∀ l,(plM r q l).length<=l.length+1
 |[]=>by simp[plM]| t::rest=>by have:=zHV r q rest;unfold plM;split;{simp;omega};{split <;> simp}
theorem zN8 {r:Row}{q:Rat}{k m:Nat}(hq:Fits m q):∀ {l:List (Row×Rat)},(∀ t,t∈l->Fits k t.2)->∀ t,t∈plM r q l->Fits (k+m+1) t.2
 |[],_,t,h=>by
  (have:t=(r,q):=by simpa[plM] using h);rw[this];exact hq.mono oM
 |a::rest,hl,t,h=>by unfold plM at h;split at h;{rcases yI.1 h with rfl|h;{exact (hl _ xM).mono oM};{exact zN8 hq (fun u hu=>hl u (xN _ hu)) t h}};{split at h;{rcases yI.1 h with rfl|h;{exact (qT (hl a xM) hq).mono oM};{exact (hl t (xN _ h)).mono oM}};{rcases yI.1 h with rfl|h;{exact hq.mono oM};{exact (hl t h).mono oM}}}
theorem oC {l:List (Row×Rat)}{r:Row}{q:Rat}{k m:Nat}(hq:Fits m q)(hl:∀ t,t∈l->Fits k t.2):∀ t,t∈plMq l r q->Fits (k+m+1) t.2:=fun t h=>by unfold plMq at h;split at h;{exact (hl t h).mono oM};{exact zN8 hq hl t h}
theorem zD7 (l:List (Row×Rat))(r:Row)(q:Rat):(plMq l r q).length<=l.length+1:=by unfold plMq;split;{omega};{exact zHV r q l}

theorem zMF {f:F}{k n:Nat}(h:f.fl k n)(hn:n<2^38):(fA f).sz k:=(h.fit hn).fA
theorem zG7 {b:Bool}{A B:Unit->Prop}(h:b=true)(h1:A ()):Br (fun _=>b) A B:=z7 (fun _=>h1) (fun g=>by rw[h] at g;cases g)
theorem pV {b:Bool}{A B:(Exit->PS->Prop)->Prop}{Q:Exit->PS->Prop}(h:b=true)(h1:A Q):Cut (fun _=>b) A B Q:=zP (fun _=>h1) (fun g=>by rw[h] at g;cases g)
theorem zI9 {b:Bool}{A B:(Exit->PS->Prop)->Prop}{Q:Exit->PS->Prop}(h:b=false)(h1:B Q):Cut (fun _=>b) A B Q:=zP (fun g=>by rw[h] at g;cases g) (fun _=>h1)
theorem zIW (a b:Row):vS a b=true↔(a.k<b.k\/(a.k=b.k/\(a.i<b.i\/(a.i=b.i/\(a.lo<b.lo\/(a.lo=b.lo/\a.hi<b.hi)))))):=by unfold vS;split;{split;{split;{simp only[decide_eq_true_eq];omega};{simp only[decide_eq_true_eq];omega}};{simp only[decide_eq_true_eq];omega}};{simp only[decide_eq_true_eq];omega}
theorem zYU {a:Row}(h:vS a a=true):False:=by rw[zIW] at h;omega
theorem zRD {a b c:Row}(h:vS a b=true)(g:vS b c=true):vS a c=true:=by rw[zIW] at *;omega
theorem zYT (a b:Row):vS a b=true\/a=b\/vS b a=true:=by rw[zIW,zIW];obtain⟨a1,a2,a3,a4⟩:=a;obtain⟨b1,b2,b3,b4⟩:=b;simp only[Row.mk.injEq];omega
structure Rs (l:List (Row×Rat)):Prop where
 s:l.Pairwise (fun a b=>vS a.1 b.1=true)
 p:∀ t,t∈l->0<t.2
theorem Rs.nil:Rs []:=⟨.nil,by simp⟩
theorem Rs.tail {t l}(h:Rs (t::l)):Rs l:=⟨(zB9.1 h.s).2,fun u hu=>h.p u (xN _ hu)⟩
theorem Rs.lt {t l}(h:Rs (t::l)):∀ u,u∈l->vS t.1 u.1=true:=(zB9.1 h.s).1
theorem Rs.hd {t l}(h:Rs (t::l)):0<t.2:=h.p t xM
theorem Rs.cons {t l}(h:Rs l)(h1:∀ u,u∈l->vS t.1 u.1=true)(h2:0<t.2):Rs (t::l) :=
 ⟨zB9.2 ⟨h1,h.s⟩,fun u hu=>by rcases yI.1 hu with rfl|hu <;> first|exact h2|exact h.p u hu⟩
def cor:List (Row×Rat)->Row->Rat
 |[],_=>0| t::r,w=>(if t.1=w then t.2 else 0)+cor r w
theorem zZT (a b:Row):dS a b<0↔vS a b=true:=by rw[zFZ,decide_eq_true_eq]
theorem pJ {q:Rat}:0<z4 q↔0<q:=by unfold z4;split <;> (try split) <;> grind
theorem zHM {q:Rat}:z4 q<0↔q<0:=by unfold z4;split <;> (try split) <;> grind
theorem zFV {q:Rat}:z4 q=0↔q=0:=by unfold z4;split <;> (try split) <;> grind
theorem zHU {r:Row}{q:Rat}:∀ {l:List (Row×Rat)} {u},u∈plM r q l->u.1=r\/∃ t,t∈l/\t.1=u.1
 |[],u,h=>by
  (have:u=(r,q):=by simpa[plM] using h);rw[this];exact .inl rfl
 |t::rest,u,h=>by unfold plM at h;split at h;{rcases yI.1 h with rfl|h;{exact .inr ⟨u,xM,rfl⟩};{rcases zHU h with h|⟨v,h1,h2⟩;{exact .inl h};{exact .inr ⟨v,xN _ h1,h2⟩}}};{split at h;{rcases yI.1 h with rfl|h;{exact .inl rfl};{exact .inr ⟨u,xN _ h,rfl⟩}};{rcases yI.1 h with rfl|h;{exact .inl rfl};{exact .inr ⟨u,h,rfl⟩}}}
theorem zSV {r:Row}{q:Rat}(hq:0<q):∀ {l:List (Row×Rat)},Rs l->Rs (plM r q l)
 |[],_=>Rs.nil.cons (by simp) hq| t::rest,h=>by
  unfold plM;split;{rename_i hlt;refine (zSV hq h.tail).cons (fun u hu=>?_) h.hd;rcases zHU hu with e|⟨v,h1,h2⟩;{rw[e];exact hlt};{rw[<-h2];exact h.lt v h1}}
  ·rename_i hlt;split;{rename_i e;have:=h.hd;exact h.tail.cons (fun u hu=>by rw[<-e];exact h.lt u hu) (by show 0<t.2+q;grind)}
   ·(rename_i e;have hlt':vS r t.1=true:=by rcases zYT r t.1 with c|c|c;{exact c};{exact absurd c.symm e};{exact absurd c hlt});refine h.cons (fun u hu=>?_) hq;rcases yI.1 hu with rfl|hu;{exact hlt'};{exact zRD hlt' (h.lt u hu)}
theorem zVS {l:List (Row×Rat)}{r:Row}{q:Rat}(h:Rs l)(hq:0<=q):Rs (plMq l r q):=by unfold plMq;split;{exact h};{rename_i e;rw[zFV] at e;exact zSV (by grind) h}
theorem zH9:∀ {l:List (Row×Rat)} {p:Option Row},Rs l->(∀ w,p=some w->∀ t,t∈l->vS w t.1=true)->kH p (mR l)=true
 |[],p,_,_=>by cases p <;> rfl
 |t::r,none,h,hp=>by show (decide (0<z4 (zJ t.2).q)&&((zJ t.2).ok&&(true&&kH (some t.1) (mR r))))=true;rw[z6,pO,decide_eq_true (pJ.2 h.hd),zH9 h.tail (fun w e u hu=>by cases e;exact h.lt u hu)];rfl
 |t::r,some w,h,hp=>by show (decide (0<z4 (zJ t.2).q)&&((zJ t.2).ok&&(decide (dS w t.1<0)&&kH (some t.1) (mR r))))=true;rw[z6,pO,decide_eq_true (pJ.2 h.hd),zH9 h.tail (fun w e u hu=>by cases e;exact h.lt u hu),decide_eq_true ((zZT _ _).2 (hp w rfl t xM))];rfl
abbrev InW (w:World) (b i:Nat):Prop:=b<w.heap.size
def Cs (w:World):List Value->List D->Prop
 |[],[]=>True| v::vs,d::ds=>(RepD w (InW w) v d/\v.oneCell'=true)/\Cs w vs ds| _,_=>False
theorem Cs.len {w}:∀ {a x},Cs w a x->a.length=x.length
 |[],[],_=>rfl| _::_,_::_,h=>by simp[Cs.len h.2]
theorem Cs.get {w}:∀ {a x},Cs w a x->∀ j,j<x.length->RepD w (InW w) (a.getD j undef) (x.getD j .any)/\(a.getD j undef).oneCell'=true
 |[],[],_,j,hj=>absurd hj (by simp)| _::_,_::_,h,0,_=>h.1| _::_,_::_,h,j+1,hj=>by simpa using Cs.get h.2 j (by simpa using hj)
structure ElR (w:World) (t:TypeId) (k:Nat) {α:Type} (G:α->Prop) (p:α->List PV):Prop where
 sz:Tryz.prog.cellsOf t=k
 rd:∀ {H:Type} {enc:TypeId×Value->H} {sp:Nat->Bool} {n:Nat} {cs:List Value} {x:DataW H×List MemPlace},DataW.trod enc Tryz.prog w 0 sp true n t cs=some x->∃ a,G a/\Cs w cs (wB (p a))
theorem ElR.map {w t k}{α β:Type}{G:α->Prop}{p:α->List PV}{G':β->Prop}{p':β->List PV}(h:ElR w t k G p)(f:α->β)(hp:∀ a,G a->wB (p' (f a))=wB (p a))(hG:∀ a,G a->G' (f a)):ElR w t k G' p' :=
 ⟨h.sz,fun hx=>by obtain⟨a,h1,h2⟩:=h.rd hx;exact⟨f a,hG a h1,by rw[hp a h1];exact h2⟩⟩
theorem yAV {w t}{k:IntKind}(ht:Tryz.prog.underlying t=some (.int k))(hs:Tryz.prog.cellsOf t=1):ElR w t 1 (fun n=>(Lit.int k n).wf=true) (fun n=>[.int k (fun _=>n)]) :=
 ⟨hs,fun {H enc sp n cs x} hx=>by
  cases n with
  |zero=>simp[DataW.trod] at hx| succ n =>
   (unfold DataW.trod at hx;rw[ht] at hx;split at hx <;> simp_all);obtain⟨⟨rfl,h2⟩,_⟩:=hx
   exact⟨_,h2,⟨.int _ _,rfl⟩,trivial⟩⟩
theorem zZX {b o n:Nat}:(⟨b,o,none⟩:Addr).add n=⟨b,o+n,none⟩:=by unfold Addr.add;split;{rename_i h;rw[h];rfl};{rfl}
theorem zV4 {w t e k}{α:Type}{G:α->Prop}{p:α->List PV}(ht:Tryz.prog.underlying t=some (.slice e))(hs:Tryz.prog.cellsOf t=1)(hk:0<k)(he:ElR w e k G p):ElR w t 1 (fun l:List α=>(∀ a,a∈l->G a)/\l.length<=maxLen) (fun l=>[.sl (fun _=>enc p l)]) :=
 ⟨hs,fun {H enc' sp n cs x} hx=>by
  (rcases Go.Deep.open_slice ht hx with⟨rfl,_⟩|⟨a,len,cap,m,n',D,Pl,rfl,hb,hl,hm,hmm,_,hi⟩;{exact⟨[],⟨fun _ h=>absurd h (by simp),xD _⟩,⟨.sl0 _ _,rfl⟩,trivial⟩};have hlm:len<=m:=by rw[hmm];split <;> omega);rcases zHB len with h0|h0
  {subst h0;exact⟨[],⟨fun _ h=>absurd h (by simp),xD _⟩,⟨.sl0 _ _,rfl⟩,trivial⟩};rw[he.sz] at hi;have key:∀ i,i<len->∃ y:List Value×α,w.cells? 0 (a.add (i*k)) k=some y.1/\G y.2/\Cs w y.1 (wB (p y.2)):=fun i hil=>by obtain⟨cs',h1,h2⟩:=hi i oM;obtain⟨y,g1,g2⟩:=he.rd h2;exact⟨(cs',y),h1,g1,g2⟩
  haveI:Inhabited (List Value×α):=⟨Classical.choose (key 0 h0)⟩
  obtain⟨Y,hY⟩:=Go.Deep.choose_lt key;have hcell:∀ i j,i<len->j<k->w.cell? (a.add (i*k+j))=some ((Y i).1.getD j undef):=fun i j hi' hj=>by
   (obtain⟨h1,_,_⟩:=hY i hi';obtain⟨_,h2,h3⟩:=World.cells?_some h1;have:=h3 j hj;rw[Go.Deep.add_add] at this;rw[this,uJ];have:j<(Y i).1.length:=by omega);simp[this]
  obtain⟨b,o,sp'⟩:=a;have hsp:sp'=none:=by
   have:=hcell 0 0 h0 hk;unfold World.cell? at this;split at this
   ·cases sp' with
    |none=>rfl| some s=>simp[Addr.add] at this
   {cases this}
  subst hsp;have hS:b<w.heap.size:=World.cells?_block (a:=⟨b,o,none⟩) (by have:=(hY 0 h0).1;rw[tJ] at this;exact this) hk
  (have hlen:((List.range len).map fun i=>(Y i).2).length=len:=by simp);have hel:∀ i,i<len->(enc p ((List.range len).map fun i=>(Y i).2)).getD i []=wB (p (Y i).2):=fun i hi'=>by simp[Go.Proofs.YtaeaffgjdcigoaaGreat.enc,hi']
  refine⟨(List.range len).map fun i=>(Y i).2,⟨fun z hz=>?_,by rw[hlen];omega⟩,⟨?_,rfl⟩,trivial⟩;{obtain⟨i,hi',rfl⟩:=y8.1 hz;exact (hY i (zC1.1 hi')).2.1}
  (have hel2:(enc p ((List.range len).map fun i=>(Y i).2)).length=len:=by rw[zA,hlen]);have hk':∀ i,i<len->(wB (p (Y i).2)).length=k:=fun i hi'=>by obtain⟨h1,_,h3⟩:=hY i hi';obtain⟨_,h2,_⟩:=World.cells?_some h1;rw[<-h3.len];exact h2
  have:=RepD.sl (w:=w) (S:=InW w) (b:=b) (o:=o) (cap:=cap) (s:=k) (els:=enc p ((List.range len).map fun i=>(Y i).2)) (fun i j=>(Y i).1.getD j undef)
   (fun h=>by rw[h] at hel2;simp at hel2;omega) (by rw[hel2];exact hl) (fun _ _ _ _=>hS)
   (fun e' he'=>by obtain⟨z,hz,rfl⟩:=y8.1 he';obtain⟨i,hi',rfl⟩:=y8.1 hz;exact hk' i (zC1.1 hi'))
   (fun i j hi' hj=>by rw[hel2] at hi';have:=hcell i j hi' hj;rw[zZX] at this;rw[lV];exact this)
   (fun i j hi' hj=>by rw[hel2] at hi';exact ((hY i hi').2.2.get j (by rw[hk' i hi'];exact hj)).2)
   (fun i j hi' hj=>by rw[hel2] at hi';rw[hel i hi'];exact ((hY i hi').2.2.get j (by rw[hk' i hi'];exact hj)).1)
  rw[hel2] at this;exact this⟩
end Go.Proofs.YtaeaffgjdcigoaaGreat
namespace Go.Proofs.YtaeaffgjdcigoaaGreat
open Go Go.ChangeShapes Go.WideShapes Go.ChangeAt Go.RowKit
set_option maxRecDepth 100000
theorem own:ownKnob Tryz.prog.godebug=none:=by kernel_rfl
theorem kids:Kids Tryz.prog (·<Tryz.prog.types.size):=kids_rows (by kernel_rfl) (by kernel_rfl)
theorem zZF:∀ t e,t<Tryz.prog.types.size->Tryz.prog.underlying t=some (.slice e)->0<Tryz.prog.cellsOf e:=slices_full_of _ (by kernel_rfl)
theorem lK {H:Type}{enc:TypeId×Value->H}{W W':World}{sp:Nat->Bool}:∀ {ts:List TypeId} {vs:List Value} {ds:List (DataW H)} {ps:List MemPlace},(∀ t∈ts,t<Tryz.prog.types.size) ->DataW.TrodAll enc Tryz.prog W 0 (fun _=>true) true ts vs ds ps->(∀ p∈ps,W.sameAt W' p)->(∀ p∈ps,sp p.block=true)->DataW.TrodAll enc Tryz.prog W' 0 sp true ts vs ds ps
 |[],[],[],_,_,h,_,_=>h| _::_,_::_,_::_,_,hT,⟨p,q,⟨n,h1⟩,h2,e⟩,hs,hb=>by subst e;refine⟨p,q,⟨n,?_⟩,lK (fun t ht=>hT t (xN _ ht)) h2 (fun x hx=>hs x (mX _ hx)) (fun x hx=>hb x (mX _ hx)),rfl⟩;exact DataW.trod_respare kids zZF n _ _ _ (hT _ xM) (DataW.trod_carry n _ _ _ h1 (fun x hx=>hs x (mY _ hx))) (fun x hx=>hb x (mY _ hx))
theorem zLN {W W':World}(hs:W.heap.size<=W'.heap.size)(ho:W'.os=W.os)(hu:W'.output=W.output)(hb:∀ b,b<W.heap.size->W'.heap[b]?=W.heap[b]?)(may:MemPlace->Prop):W.keptBut W' may:=by
 refine⟨ho,hu,fun i hi=>?_⟩;rw[hb i hi];have:W.heap[i]?=some W.heap[i]:=by simp[hi]
 rw[this];cases W.heap[i] with
 |cells c t fr=>exact⟨rfl,rfl,rfl,fun _ _=>rfl⟩| map es clock=>exact .inr ⟨rfl,rfl⟩| _=>rfl
theorem zRT {s:ChangeSpec}{fn:Func}{H:Type}{enc:TypeId×Value->H}{W:World}{args:Array Value}{ds gs:List (DataW H)}{before:List MemPlace}{fresh handsOn again:Bool} (hv:s.vars=[]) (hres:fn.resultTypes=#[4]) (hsp:s.fn H ds={ results:=[.lit (.bool true)],args:=ds }) (hp:∀ t∈fn.params.toList,t<Tryz.prog.types.size)
  (hW:DataW.Whole enc Tryz.prog fn.params.toList s.vars false W args.toList ds gs before)
  {f:FuncId} {pvs:List PV} (hS:zE f pvs (.bool (fun _=>true))) (hn:args.size=pvs.length) (hrep:∀ j,j<pvs.length->Rep W (InW W) β0 (args.getD j undef) (pvs.getD j .any)) :
  Calls Tryz.prog f args W fun e W'=>∃ v,e=.returned v/\s.post enc Tryz.prog fn false fresh handsOn again W args v W':=by
 have hgo:=hS.go W (InW W) β0 args (fun b i h=>h) zS3 hn hrep;rw[uV] at hgo;refine hgo.mono fun e W' ⟨v,S',β',he,hl,hr,_⟩=>?_;subst he;have hvt:v=.bool true:=by
  cases hr with
  |c hf h=>cases h;rfl
 subst hvt;refine⟨_,rfl,?_⟩;have hsame:∀ b,b<W.heap.size->W'.heap[b]?=W.heap[b]?:=fun b hb=>hl.same b hb (fun⟨n,o,h,_⟩=>by simp at h);have hlt:=hW.lt;have hW0:=hW;obtain⟨p,q,hA,hV,rfl,hfz,hnd⟩:=hW;rw[hv] at hV;obtain⟨rfl,rfl⟩:=trodVars_none hV;rw[uU] at hlt hfz hW0;have hat:∀ x∈p,W.sameAt W' x:=fun x hx=>by
  have:=hlt x hx;cases x with
  |cell b o=>show W'.cell? _=W.cell? _;unfold World.cell?;rw[hsame b this]| map b=>exact hsame b this
 have hargs:∀ sp:Nat->Bool,(∀ x∈p,sp x.block=true)->DataW.TrodAll enc Tryz.prog W' 0 sp true fn.params.toList args.toList ds p:=fun sp h=>lK hp hA hat h;have hold:∀ x∈p,(fun b=>decide (b<W.heap.size)) x.block=true:=fun x hx=>by simpa using hlt x hx
 have hrs:∀ (b:Nat) (sp:Nat->Bool) (hd:Bool),DataW.TrodAll enc Tryz.prog W' b sp hd fn.resultTypes.toList ((Value.bool true).resultList fn.resultTypes.size) [.lit (.bool true)] []:=fun b sp hd=>by rw[hres];exact⟨[],[],shut_bool Tryz.underlying4 true,rfl,rfl⟩
 have hfz':W'.noneFrozen p:=fun b o h=>by have g:=hfz b o h;have hb:b<W.heap.size:=hlt _ h;unfold World.frozen? at g ⊢;rw[hsame b hb];exact g
 refine⟨ds,[],p,[],p,[],hW0,?_,?_,?_,?_,fun _=>⟨?_,ds.cons (.lit (.bool true)),[],p,⟨p,[],?_,?_,by simp,hfz',fun h=>by cases h⟩,fun x hx _=>hx⟩⟩;{rw[uU,hsp];exact hrs _ _ _};{rw[uU,hsp];exact hargs _ hold};{rw[uU,hsp,hv];rfl};{exact zLN hl.size hl.os hl.output hsame _};{exact ok_one hres rfl (okWide_bool_mk Tryz.underlying4 _)};{exact trodAll_append (hargs _ (fun _ _=>rfl)) (hrs _ _ _)};{rw[hv];rfl}
end Go.Proofs.YtaeaffgjdcigoaaGreat
namespace Go.Proofs.YtaeaffgjdcigoaaGreat
open Go
def fdN (raw:List UInt8) (n a:Nat):Nat:=match raw[a]? with
 |some b=>b.toNat%n| none=>0
def na (raw:List UInt8) (a:Nat):Nat:=if a<raw.length then a+1 else a
theorem kX {raw:List UInt8}{n a:Nat}(h:0<n):fdN raw n a<n:=by unfold fdN;split;{exact uH _ h};{exact h}
theorem dD {raw:List UInt8}{a:Nat}(h:a<=raw.length):na raw a<=raw.length:=by unfold na;split <;> omega
def dnm:Nat->Int
 |0=>1| 1=>1| 2=>2| _=>4
theorem zOX (k:Nat):1<=dnm k/\dnm k<=4:=by unfold dnm;split <;> decide
def fdQ (raw:List UInt8) (a:Nat):Rat×Nat:=(iO ((fdN raw 9 a:Int)-4) (dnm (fdN raw 4 (na raw a))),na raw (na raw a))
theorem zRV {a b:Int}(h1:a.natAbs<B)(h2:0<b)(h3:b.natAbs<B):Fits 1 (iO a b):=by obtain⟨d,hd⟩:∃ d:Nat,b=(d:Int):=⟨b.toNat,by omega⟩;subst hd;unfold iO;rw[zFN];exact aZ (by rw[Nat.pow_one];exact h1) (by rw[Nat.pow_one];simpa using h3) oM
theorem jG (raw:List UInt8)(a:Nat):Fits 1 (fdQ raw a).1:=by have h1:=kX (raw:=raw) (n:=9) (a:=a) (by decide);obtain⟨h2,h3⟩:=zOX (fdN raw 4 (na raw a));have hB:B=4294967296:=rfl;exact zRV oM oM oM
def tK (raw:List UInt8):Nat->Nat->F->Nat->F×Nat
 |0,_,f,a=>(f,a)| n+1,v,f,a=>if 0<fdN raw 3 a then tK raw n (v+1) (f.add ((F.var v).scale (fdQ raw (na raw a)).1)) (fdQ raw (na raw a)).2 else tK raw n (v+1) f (na raw a)
def fdF (raw:List UInt8) (n a:Nat):F×Nat:=tK raw n 0 (F.num (fdQ raw a).1) (fdQ raw a).2
theorem zH6 (raw:List UInt8):∀ (n v:Nat) (f:F) (a k m:Nat),f.fl k m->(tK raw n v f a).1.fl (k+6*n) (m+n)
 |0,_,_,_,_,_,h=>h| n+1,v,f,a,k,m,h=>by unfold tK;split;{exact (zH6 raw n _ _ _ (k+6) (m+1) ((h.add ((gL _).scale (jG raw _))).mono oM oM)).mono oM oM};{exact (zH6 raw n _ _ _ k m h).mono oM oM}
theorem zTJ (raw:List UInt8)(n a:Nat):(fdF raw n a).1.fl (1+6*n) n:=(zH6 raw n 0 _ _ 1 0 (kW (jG raw a))).mono oM oM
theorem iN {raw:List UInt8}{a:Nat}(h:a<=raw.length):(fdQ raw a).2<=raw.length:=dD (dD h)
theorem zH5 {raw:List UInt8}:∀ {n v:Nat} {f:F} {a:Nat},a<=raw.length->(tK raw n v f a).2<=raw.length
 |0,_,_,_,h=>h| n+1,v,f,a,h=>by unfold tK;split;{exact zH5 (iN (dD h))};{exact zH5 (dD h)}
theorem zI7 {raw:List UInt8}{n a:Nat}(h:a<=raw.length):(fdF raw n a).2<=raw.length:=zH5 (iN h)
def fdL (raw:List UInt8) (d:Nat):Nat->Nat->Nat->List F×Nat
 |0,_,a=>([],a)| n+1,v,a=>((fdF raw v a).1::(fdL raw d n (v+d) (fdF raw v a).2).1,(fdL raw d n (v+d) (fdF raw v a).2).2)
theorem cE (raw:List UInt8)(d:Nat):∀ n v a,(fdL raw d n v a).1.length=n
 |0,_,_=>rfl| n+1,v,a=>by simp only[fdL,kI,cE raw d n]
theorem zI5 {raw:List UInt8}{d:Nat}:∀ {n v a},a<=raw.length->(fdL raw d n v a).2<=raw.length
 |0,_,_,h=>h| n+1,v,a,h=>zI5 (n:=n) (zI7 h)
theorem zI6 {raw:List UInt8}{d:Nat}:∀ {n v a:Nat} {f:F},f∈(fdL raw d n v a).1->f.fl (1+6*(v+d*n)) (v+d*n)
 |0,_,_,f,h=>absurd h (by simp[fdL])| n+1,v,a,f,h=>by simp only[fdL,yI] at h;have e:d*(n+1)=d*n+d:=Nat.mul_succ d n;rcases h with rfl|h;{exact (zTJ raw v a).mono oM oM};{exact (zI6 h).mono oM oM}
structure FGrp where
 n:Nat
 us:List F
 os:List F
def FGrp.g (x:FGrp):Grp:=⟨x.n,x.us.map fA,x.os.map fA⟩
def fdG (raw:List UInt8) (a:Nat):FGrp×Nat :=
 let n:=1+fdN raw 3 a
 let a1:=na raw a
 let u:=fdN raw 5 a1
 let a2:=na raw a1
 let o:=1+fdN raw 3 a2
 let a3:=na raw a2
 let U:=fdL raw 1 u n a3
 let O:=fdL raw 0 o (n+u) U.2
 (⟨n,U.1,O.1⟩,O.2)
structure FGrp.small (x:FGrp):Prop where
 n1:1<=x.n
 n2:x.n<=3
 us:x.us.length<=4
 o1:1<=x.os.length
 o2:x.os.length<=3
 uf:∀ f,f∈x.us->f.fl 43 7
 of:∀ f,f∈x.os->f.fl 43 7
theorem zGJ (raw:List UInt8)(a:Nat):(fdG raw a).1.small:=by have h1:=kX (raw:=raw) (n:=3) (a:=a) (by decide);have h2:=kX (raw:=raw) (n:=5) (a:=na raw a) (by decide);have h3:=kX (raw:=raw) (n:=3) (a:=na raw (na raw a)) (by decide);refine⟨?_,?_,?_,?_,?_,fun f hf=>?_,fun f hf=>?_⟩;{show 1<=1+fdN raw 3 a;omega};{show 1+fdN raw 3 a<=3;omega};{show (fdL raw 1 _ _ _).1.length<=4;rw[cE];omega};{show 1<=(fdL raw 0 _ _ _).1.length;rw[cE];omega};{show (fdL raw 0 _ _ _).1.length<=3;rw[cE];omega};{have:=zI6 (f:=f) (raw:=raw) (d:=1) hf;exact this.mono oM oM};{have:=zI6 (f:=f) (raw:=raw) (d:=0) hf;exact this.mono oM oM}
theorem zTI {raw:List UInt8}{a:Nat}(h:a<=raw.length):(fdG raw a).2<=raw.length:=zI5 (zI5 (dD (dD (dD h))))
def vK (q:Rat):Rat:=if q<0 then -q else q
theorem jU {k:Nat}{q:Rat}(h:Fits k q):Fits k (vK q):=by unfold vK;split;{exact qD h};{exact h}
def fdB (raw:List UInt8):Nat->Nat->List (Rat×Rat)×Nat
 |0,a=>([],a)| n+1,a=>(((fdQ raw a).1,(fdQ raw a).1+vK (fdQ raw (fdQ raw a).2).1)::(fdB raw n (fdQ raw (fdQ raw a).2).2).1,(fdB raw n (fdQ raw (fdQ raw a).2).2).2)
theorem zH7 (raw:List UInt8):∀ n a,(fdB raw n a).1.length=n
 |0,_=>rfl| n+1,a=>by simp only[fdB,kI,zH7 raw n]
theorem zTK {raw:List UInt8}:∀ {n a},a<=raw.length->(fdB raw n a).2<=raw.length
 |0,_,h=>h| n+1,a,h=>zTK (n:=n) (iN (iN h))
theorem zKL {raw:List UInt8}:∀ {n a:Nat} {x:Rat×Rat},x∈(fdB raw n a).1->Fits 3 x.1/\Fits 3 x.2
 |0,_,x,h=>absurd h (by simp[fdB])| n+1,a,x,h=>by simp only[fdB,yI] at h;rcases h with rfl|h;{exact⟨(jG raw a).mono (by decide),(qT (jG raw a) (jU (jG raw _))).mono (by decide)⟩};{exact zKL h}
theorem zOS {raw:List UInt8}:∀ {n a:Nat} {x:Rat×Rat},x∈(fdB raw n a).1->x.1<=x.2
 |0,_,x,h=>absurd h (by simp[fdB])| n+1,a,x,h=>by
  simp only[fdB,yI] at h;rcases h with rfl|h
  ·(show (fdQ raw a).1<=(fdQ raw a).1+vK _;have:0<=vK (fdQ raw (fdQ raw a).2).1:=by unfold vK;split <;> grind);grind
  {exact zOS h}
structure FReg where
 bs:List (Rat×Rat)
 rows:List F
def FReg.g (x:FReg):Reg:=⟨x.bs.map fun b=>zJ b.1,x.bs.map fun b=>zJ b.2,x.rows.map fA⟩
def fdR (raw:List UInt8) (n a:Nat):FReg×Nat :=
 let b:=fdB raw n a
 let k:=fdN raw 3 b.2
 let l:=fdL raw 0 k n (na raw b.2)
 (⟨b.1,l.1⟩,l.2)
structure FReg.small (x:FReg) (n:Nat):Prop where
 bs:x.bs.length=n
 bf:∀ b,b∈x.bs->Fits 3 b.1/\Fits 3 b.2
 ord:∀ b,b∈x.bs->b.1<=b.2
 rows:x.rows.length<=2
 rf:∀ f,f∈x.rows->f.fl (1+6*n) n
theorem zPX (raw:List UInt8)(n a:Nat):(fdR raw n a).1.small n:=by have h1:=kX (raw:=raw) (n:=3) (a:=(fdB raw n a).2) (by decide);refine⟨zH7 raw n a,fun b hb=>zKL hb,fun b hb=>zOS hb,?_,fun f hf=>?_⟩;{show (fdL raw 0 _ _ _).1.length<=2;rw[cE];omega};{have:=zI6 (f:=f) (raw:=raw) (d:=0) hf;exact this.mono oM oM}
theorem zTE {raw:List UInt8}{n a:Nat}(h:a<=raw.length):(fdR raw n a).2<=raw.length:=zI5 (dD (zTK h))
structure FQry where
 g:FGrp
 r:FReg
 goal:F
def FQry.q (x:FQry):Qry:=⟨x.g.g,x.r.g,fA x.goal⟩
def fdY (raw:List UInt8) (a:Nat):FQry×Nat :=
 let g:=fdG raw a
 let r:=fdR raw g.1.n g.2
 let f:=fdF raw (g.1.n+g.1.us.length) r.2
 (⟨g.1,r.1,f.1⟩,f.2)
structure FQry.small (x:FQry):Prop where
 g:x.g.small
 r:x.r.small x.g.n
 goal:x.goal.fl 43 7
theorem r8 (raw:List UInt8)(a:Nat):(fdY raw a).1.small:=by have hg:=zGJ raw a;refine⟨hg,zPX raw _ _,?_⟩;have h1:=hg.n2;have h2:=hg.us;show (fdF raw ((fdG raw a).1.n+(fdG raw a).1.us.length) (fdR raw (fdG raw a).1.n (fdG raw a).2).2).1.fl 43 7;exact (zTJ raw _ _).mono oM oM
theorem zZI {raw:List UInt8}{a:Nat}(h:a<=raw.length):(fdY raw a).2<=raw.length:=zI7 (zTE (zTI h))
theorem zNB {l:List F}{k n:Nat}(hl:l.length<2^38)(h:∀ f,f∈l->f.fl k n)(hn:n<2^38):Asz k (l.map fA):=⟨by simpa using hl,fun a ha=>by obtain⟨f,hf,rfl⟩:=y8.1 ha;exact ((h f hf).fit hn).fA⟩
theorem FQry.small.sz {x:FQry}(h:x.small):x.q.sz 43 where
 g:=⟨zNB (by have:=h.g.us;omega) h.g.uf (by decide),zNB (by have:=h.g.o2;omega) h.g.of (by decide)⟩
 r:=⟨⟨by show (x.r.bs.map _).length<_;rw[xA,h.r.bs];have:=h.g.n2;omega,fun a ha=>by
   obtain⟨b,hb,rfl⟩:=y8.1 ha;exact zU ((h.r.bf b hb).1.mono (by decide))⟩,⟨by show (x.r.bs.map _).length<_;rw[xA,h.r.bs];have:=h.g.n2;omega,fun a ha=>by
   obtain⟨b,hb,rfl⟩:=y8.1 ha;exact zU ((h.r.bf b hb).2.mono (by decide))⟩,
  zNB (by have:=h.r.rows;omega) (fun f hf=>(h.r.rf f hf).mono (by have:=h.g.n2;omega) (by have:=h.g.n2;show _<=7;omega)) (by decide)⟩
 goal:=(h.goal.fit (by decide)).fA
def lF (raw:List UInt8) (q:Qry) (n m:Nat):Nat->List Dec->Nat->List Dec
 |0,p,_=>p| k+1,p,a =>
  let kd:=1+fdN raw 4 a
  let a1:=na raw a
  if kd=3\/kd=4 then lF raw q n m k (p++[⟨kd,fdN raw n a1,zJ (fdQ raw (na raw a1)).1⟩]) (fdQ raw (na raw a1)).2
  else if m=0 then lF raw q n m k p a1
  else if (⟨q,p,[]⟩:Scp).dcd 1 (fdN raw m a1)=true\/(⟨q,p,[]⟩:Scp).dcd 2 (fdN raw m a1)=true then lF raw q n m k p (na raw a1)
  else lF raw q n m k (p++[⟨kd,fdN raw m a1,R0⟩]) (na raw a1)
def fdS (raw:List UInt8):Scp :=
 let y:=fdY raw 0
 ⟨y.1.q,lF raw y.1.q y.1.g.n y.1.g.us.length (fdN raw 4 y.2) [] (na raw y.2),[]⟩
structure PathOk (n m:Nat) (p:List Dec):Prop where
 d:∀ d,d∈p->(d.k=1\/d.k=2)/\0<=d.i/\d.i<m/\d.x=R0\/(d.k=3\/d.k=4)/\0<=d.i/\d.i<n/\∃ q,Fits 1 q/\d.x=zJ q
theorem o4 {raw:List UInt8}{q:Qry}{n m:Nat}(hn:0<n):∀ {k a:Nat} {p:List Dec},PathOk n m p->PathOk n m (lF raw q n m k p a)/\(lF raw q n m k p a).length<=p.length+k
 |0,a,p,h=>⟨h,zZ _⟩| k+1,a,p,h=>by
  have h4:=kX (raw:=raw) (n:=4) (a:=a) (by decide);unfold lF;dsimp only;split
  ·rename_i hk;have hi:=kX (raw:=raw) (n:=n) (a:=na raw a) hn;obtain⟨g1,g2⟩:=o4 (raw:=raw) (q:=q) (m:=m) hn (k:=k) (a:=(fdQ raw (na raw (na raw a))).2) (p:=p++[⟨((1+fdN raw 4 a:Nat):Int),fdN raw n (na raw a),zJ (fdQ raw (na raw (na raw a))).1⟩]) ⟨fun d hd=>by
    rcases vX.1 hd with hd|hd;{exact h.d d hd}
    ·obtain rfl:=vL.1 hd;exact .inr ⟨by show ((1+fdN raw 4 a:Nat):Int)=3\/((1+fdN raw 4 a:Nat):Int)=4;omega,by show (0:Int)<=(fdN raw n (na raw a):Int);omega,by show (fdN raw n (na raw a):Int)<_;omega,_,jG raw _,rfl⟩⟩
   refine⟨g1,?_⟩;rw[qZ,zJF] at g2;omega
  ·rename_i hk;split;{obtain⟨g1,g2⟩:=o4 (raw:=raw) (q:=q) (m:=m) hn (k:=k) (a:=na raw a) h;exact⟨g1,by omega⟩}
   ·rename_i hm;have hi:=kX (raw:=raw) (n:=m) (a:=na raw a) oM;split;{obtain⟨g1,g2⟩:=o4 (raw:=raw) (q:=q) (m:=m) hn (k:=k) (a:=na raw (na raw a)) h;exact⟨g1,by omega⟩}
    ·obtain⟨g1,g2⟩:=o4 (raw:=raw) (q:=q) (m:=m) hn (k:=k) (a:=na raw (na raw a)) (p:=p++[⟨((1+fdN raw 4 a:Nat):Int),fdN raw m (na raw a),R0⟩]) ⟨fun d hd=>by
      rcases vX.1 hd with hd|hd;{exact h.d d hd}
      ·obtain rfl:=vL.1 hd;exact .inl ⟨by show ((1+fdN raw 4 a:Nat):Int)=1\/((1+fdN raw 4 a:Nat):Int)=2;omega,by show (0:Int)<=(fdN raw m (na raw a):Int);omega,by show (fdN raw m (na raw a):Int)<_;omega,rfl⟩⟩
     refine⟨g1,?_⟩;rw[qZ,zJF] at g2;omega
theorem zKK (raw:List UInt8):PathOk (fdY raw 0).1.g.n (fdY raw 0).1.g.us.length (fdS raw).path/\(fdS raw).path.length<=3:=by
 have h:=(r8 raw 0).g.n1;obtain⟨g1,g2⟩:=o4 (raw:=raw) (q:=(fdY raw 0).1.q) (m:=(fdY raw 0).1.g.us.length) (n:=(fdY raw 0).1.g.n) oM (k:=fdN raw 4 (fdY raw 0).2) (a:=na raw (fdY raw 0).2) (p:=[]) ⟨fun d hd=>absurd hd (by simp)⟩;have:=kX (raw:=raw) (n:=4) (a:=(fdY raw 0).2) (by decide);exact⟨g1,by
  have:(fdS raw).path.length<=0+fdN raw 4 (fdY raw 0).2:=g2;omega⟩
theorem zZJ (raw:List UInt8):(fdS raw).sz 43:=by obtain⟨h1,h2⟩:=zKK raw;refine⟨(r8 raw 0).sz,⟨by omega,fun d hd=>?_⟩,⟨by show 0<2^38;decide,fun a ha=>absurd ha (by simp[fdS]),fun a ha=>absurd ha (by simp[fdS])⟩⟩;rcases h1.d d hd with⟨_,_,_,h⟩|⟨_,_,_,q,hq,h⟩;{rw[h];exact⟨xD _,xD _⟩};{rw[h];exact zU (hq.mono (by decide))}
end Go.Proofs.YtaeaffgjdcigoaaGreat
