/- A part of the proof: KwD, KqG, KqH, KwE. -/
import Derived.Test.YtaeaffgjdcigoaaGreatW40
import Derived.Test.YtaeaffgjdcigoaaGreatW35
import Derived.Test.YtaeaffgjdcigoaaGreatW32
import Derived.Test.YtaeaffgjdcigoaaGreatW39
import Derived.Test.YtaeaffgjdcigoaaGreatW43
set_option linter.all false
namespace Go.Proofs.YtaeaffgjdcigoaaGreat
open Go
set_option maxRecDepth 100000
set_option maxHeartbeats 8000000
def Lz (t:Scp)(r:Rsn)(h:RsnOk t.q r)(hv:zC 26 [qv t.q,rsv r] (zL (w4 t.q r)))(ht:Psz t)(hl:t.lems.length<2^30)(hr:w4 t.q r=true->(∀ m,m∈r.pf->Rsm m.row)/\∀ m,m∈r.lems->m.pf.length<2^38/\∀ y,y∈m.pf->Rsm y.row):zC 39 [sv t,rsv r] (.tup [SW (qQ t r).1,iV ((qQ t r).2)]):=by
 refine sF Tryz.f39 ?_;have hcl:=h.cl;have hll:=h.lz.len;have c2:=DW t.q r oM;have hsc:dJ t.q r=⟨t.q,r.cl.map xM,r.lems⟩:=rfl;rw[hsc] at c2;have c4:=λk u=>L5 t k u ht;have c5:=λ(g:w4 t.q r=true) (m:Lem) (hm:m∈r.lems)=>Nh m.pf t.lems.length ((hr g).2 m hm).1 oM oM (λy hy=>by have:=((hr g).2 m hm).2 y hy;exact⟨by have:=this.2.1;omega,by have:=this.2.2;omega⟩);have c6:=λ(g:w4 t.q r=true)=>Nh r.pf t.lems.length h.pz.len oM oM (λy hy=>by have:=(hr g).1 y hy;exact⟨by have:=this.2.1;omega,by have:=this.2.2;omega⟩);have hR:qQ t r=if w4 t.q r=false then (R00n,1)
  else if (r.cl.any λc=>decide (t.fst (xM c).k c.1<0))=true then (R00n,9)
  else (⟨[],r.lems.map (shL t.lems.length),r.em,r.pf.map (shM t.lems.length)⟩,0):=rfl
 obtain⟨J,hJ⟩:∃ J:Nat->List Lem,∀ i,J i=(r.lems.take i).map (shL t.lems.length):=⟨_,λ_=>rfl⟩;have hJs:∀ i m,r.lems[i]?=some m->J (i+1)=J i++[⟨m.u,m.up,m.v,m.pf.map (shM t.lems.length)⟩]:=λi m h=>by rw[hJ,hJ,tC,h];simp[shL]
 have hJl:∀ i,i<=r.lems.length->(J i).length=i:=λi h=>by rw[hJ,y4,kX];omega
 have hJ0:J 0=[]:=by rw[hJ];rfl
 rw[show r.lems.map (shL t.lems.length)=J r.lems.length by rw[hJ,v9]] at hR;clear hr h ht hsc hJ;generalize qQ t r=RE at *;generalize w4 t.q r=b1 at *;generalize r.pf.map (shM t.lems.length)=l8 at *;generalize t.fst=F at *;obtain⟨R',E⟩:=RE;obtain⟨cl,lems,em,pf⟩:=r;obtain⟨⟨⟨n,us,os⟩,⟨lo,hi',rows⟩,⟨ts,c⟩⟩,path,L⟩:=t;dsimp only [sv] at *;cbv;refine cA hv ?_;cbv;refine zO (λe=>?_) (λe=>?_)
 rotate_left
 {rw[if_pos e] at hR;cases hR;cbv;exact rA};rw[if_neg (by grind)] at hR;replace c5:=c5 e;replace c6:=c6 e;clear hv;cbv;refine cA c2 ?_;cbv;refine z7 (σ:=Nat) (λi=>⟨[(2,.ptr 2 0),(3,.ptr 3 0),(4,.ptr 4 0),(6,dlv (cl.map xM)),(7,iV i)],[(2,.box [iV n,alv us,alv os,rlv lo,rlv hi',alv rows,tsv ts,zL c.neg,nat c.num,nat c.den,dlv path,llv L]),(3,.box [bX cl,llv lems,zL em,mlv pf]),(4,.box [.nil,iV 0,iV 0,.ff,.nil,.nil,.nil,.ff,.nil])]⟩) (λi=>i<=cl.length/\∀ (j:Nat) x,j<i->cl[j]?=some x->¬F (xM x).k x.1<0) (λi=>cl.length-i) 0 ⟨xA _,λj x h=>absurd h (Nat.not_lt_zero _)⟩ (wkZ) ?_;intro i hi;obtain⟨hi,hno⟩:=hi;cbv;refine zF (λh=>?_) (λh=>?_)
 ·(have hlt:i<cl.length:=by rw[zA,y4] at h;exact om);obtain⟨⟨ci,cb⟩,hc⟩:=zS hlt
  (have hd:(cl.map xM)[i]?=some (xM (ci,cb)):=by rw[dH,hc];rfl);have hk:xM (ci,cb)=⟨if (!cb)=true then 1 else 2,ci,R0⟩:=rfl
  (have k4:=c4 (if (!cb)=true then 1 else 2) ci;have hk2:(xM (ci,cb)).k=if (!cb)=true then 1 else 2:=rfl);rw[hk] at hd
  generalize (if (!cb)=true then (1:Int) else 2)=kk at *;clear c4 c5 c6;cbv;refine zM 11 (by cbv) ?_;cbv;refine yL hd uF qP ?_;cbv;refine yL hd uF qP ?_;cbv;refine cA k4 ?_;cbv;refine zF (λe2=>?_) (λe2=>?_);{rw[if_pos (eH.2 ⟨_,z3 hc,decide_eq_true (by rw[hk2];exact e2)⟩)] at hR;cases hR;cbv;exact rA}
  ·cbv;exact⟨zD om om,i+1,⟨(show i+1<=cl.length by omega),λj x hj hjx=>by
    rcases HU (Aw hj) with g|g;{exact hno j x g hjx}
    ·rw[g,hc] at hjx;rw[<-kF hjx,hk2];exact e2⟩,(show cl.length-(i+1)<cl.length-i by omega),wkZ⟩
 ·(have hE:i=cl.length:=by rw[zA,y4] at h;exact om);subst hE
  rw[if_neg (λq=>by obtain⟨x,hx,hx2⟩:=eH.1 q;obtain⟨j,hj⟩:=cR hx;exact hno j x (wE.1 hj).1 hj (of_decide_eq_true hx2))] at hR;cases hR;clear hno c2 c4;cbv;refine qV 10 (by cbv) (by cbv) ?_;cbv;refine xW (by exact⟨lR,zB (by rw[zA]),trivial⟩) c6 rfl ?_;cbv;clear c6;refine z7 (σ:=Nat) (λi=>⟨[(2,.ptr 2 0),(3,.ptr 3 0),(4,.ptr 4 0),(8,.ptr 8 0),(9,iV (((i:Nat):Int)))],[(2,.box [iV n,alv us,alv os,rlv lo,rlv hi',alv rows,tsv ts,zL c.neg,nat c.num,nat c.den,dlv path,llv L]),(3,.box [bX cl,llv lems,zL em,mlv pf]),(4,.box [.nil,iV 0,iV 0,.ff,.nil,.nil,.nil,.ff,.nil]),(8,.box [yX 74 6 i,iV 0,iV 0,.ff,.nil,.nil,.nil,zL em,mlv l8]),(74,xF 6 (enc lc (J i)))]⟩) (λi=>i<=lems.length) (λi=>lems.length-i) 0 (xA _)
   (.trans (wkZ (ps':=⟨[(2,.ptr 2 0),(3,.ptr 3 0),(4,.ptr 4 0),(8,.ptr 8 0),(9,iV (((0:Nat):Int)))],[(2,.box [iV n,alv us,alv os,rlv lo,rlv hi',alv rows,tsv ts,zL c.neg,nat c.num,nat c.den,dlv path,llv L]),(3,.box [bX cl,llv lems,zL em,mlv pf]),(4,.box [.nil,iV 0,iV 0,.ff,.nil,.nil,.nil,.ff,.nil]),(8,.box [.nil,iV 0,iV 0,.ff,.nil,.nil,.nil,zL em,mlv l8])]⟩))
    (.trans (.adoptB (ps:=⟨[(2,.ptr 2 0),(3,.ptr 3 0),(4,.ptr 4 0),(8,.ptr 8 0),(9,iV (((0:Nat):Int)))],[(2,.box [iV n,alv us,alv os,rlv lo,rlv hi',alv rows,tsv ts,zL c.neg,nat c.num,nat c.den,dlv path,llv L]),(3,.box [bX cl,llv lems,zL em,mlv pf]),(4,.box [.nil,iV 0,iV 0,.ff,.nil,.nil,.nil,.ff,.nil]),(8,.box [.nil,iV 0,iV 0,.ff,.nil,.nil,.nil,zL em,mlv l8])]⟩) (cs:=[.nil,iV 0,iV 0,.ff,.nil,.nil,.nil,zL em,mlv l8]) 74 6 8 0 rfl rfl rfl) (.le okZ (by cbv;repeat' first|exact trivial|exact lR|exact zG (by rw[hJ0];rfl)|apply And.intro) rfl))) ?_
  intro i hi;cbv;refine zF (λh=>?_) (λh=>?_)
  ·(have hlt:i<lems.length:=by rw[zA] at h;exact om);obtain⟨⟨mu,mup,mv,mpf⟩,hm⟩:=zS hlt
   have k5:=c5 _ (z3 hm);have hs:=hJs i _ hm;have hln:=hJl i hi;dsimp only at k5 hs;generalize mpf.map (shM L.length)=np at *;clear c5 hJs hJl hJ0;generalize hA:J i=A at *;cbv;refine yL hm xB y7 ?_;cbv;refine yJ rfl (by exact⟨lR,zB (by rw[zA]),trivial⟩) k5 rfl ?_;cbv;refine jU gF rfl rfl rfl (by rw[zA,hln]) rfl ⟨by simp[zW,xT]⟩ (z8 (by exact uG _) (by rw[zA,hln];simp[zW];exact om)) rfl ?_;cbv;exact⟨zD om om,i+1,(show i+1<=lems.length by omega),(show lems.length-(i+1)<lems.length-i by omega),.le okZ (by cbv;repeat' first|exact trivial|exact lR|exact zT rfl (by rw[zA,hln];simp[zW])|exact zG (by rw[hs,<-j6];rfl)|apply And.intro) rfl⟩
  ·(have hi':i=lems.length:=by rw[zA] at h;exact om);subst hi'
   have hln:=hJl lems.length (yD _);clear hJs hJl hJ0 c5;generalize J lems.length=A at *;cbv;refine bD _ (.trans (.sel _ [4,5] [4,74] rfl) (.frz 74 rfl rfl (by cbv;repeat' first|exact trivial|exact zZ (by simp[zA,hln])|apply And.intro) (by cbv;repeat' first|exact trivial|exact zZ (by simp[zA,hln])|apply And.intro))) rfl ?_;cbv;exact⟨⟨zR (by rw[<-hln];exact Zk lc _),lR,lR,lR,lR,lR,lR,lR,lR,trivial⟩,lR,trivial⟩
def Mh {s:Scp}{r:Row}{g:F}(h:s.fm r=some g):0<=r.i/\(r.i<s.q.g.us.length\/r.i<s.q.r.lo.length\/r.i<s.q.r.hi.length\/r.i<s.q.r.rows.length\/r.i<s.path.length):=by
 have get:∀ {α:Type} {l:List α} {y:α},0<=r.i->l[r.i.toNat]?=some y->r.i<l.length:=λh0 e=>by have:=(wE.1 e).1;omega
 unfold Scp.fm at h;split at h;{cases h};{split at h;{unfold Scp.fIn at h;split at h;{rename_i e;refine⟨e.2,?_⟩;by_cases k1:r.k=1;{rw[if_pos k1] at h;obtain⟨y,hy,_⟩:=pB.1 h;exact .inr (.inl (get e.2 hy))};rw[if_neg k1] at h;by_cases k2:r.k=2;{rw[if_pos k2] at h;obtain⟨y,hy,_⟩:=pB.1 h;exact .inr (.inr (.inl (get e.2 hy)))};rw[if_neg k2] at h;by_cases k3:r.k=3;{rw[if_pos k3] at h;obtain⟨y,hy,_⟩:=pB.1 h;exact .inr (.inr (.inr (.inl (get e.2 hy))))};rw[if_neg k3] at h;by_cases k4:r.k=4;{rw[if_pos k4] at h;split at h;{rename_i d hd;exact .inr (.inr (.inr (.inr (get e.2 hd))))};{cases h}};{rw[if_neg k4] at h;cases h}};{cases h}};{unfold Scp.fUn at h;split at h;{rename_i e;exact⟨e.1,.inl e.2⟩};{cases h}}}
def JO {q:Qry}{r:Rsn}(hz:Rs16 q r)(h:w4 q r=true):(∀ m,m∈r.pf->Rsm m.row)/\∀ m,m∈r.lems->m.pf.length<2^38/\∀ y,y∈m.pf->Rsm y.row:=by
 rw[pL] at h;simp only[yP] at h;obtain⟨h1,h2,h3,h4⟩:=h;have hn:=hz.n;have hc:=hz.cl;have k1:=hz.q.g.us.len;have k2:=hz.q.r.lo.len;have k3:=hz.q.r.hi.len;have k4:=hz.q.r.rows.len;have key:∀ (s:Scp),s.q=q->s.path=r.cl.map xM->s.lems.length<=1000->∀ (x:Row) g,s.fm x=some g->Rsm x:=λs e1 e2 e3 x g hg=>by obtain⟨a1,a2⟩:=Bs hg;obtain⟨b1,b2⟩:=Mh hg;rw[e1,e2,y4] at b2;exact⟨⟨by omega,by omega⟩,⟨by omega,by omega⟩,⟨by omega,by omega⟩⟩
 refine⟨λm hm=>?_,λm hm=>⟨(hz.lz m hm).2.1.len,λy hy=>?_⟩⟩;{obtain⟨g,hg⟩:=nE h4 m hm;exact key _ rfl rfl hn _ g hg};{unfold Scp.scopeB at h3;simp only[yP] at h3;obtain⟨i,hi⟩:=cR hm;have hb:=rU h3.2.2 hi;obtain⟨g,hg⟩:=Z0 hb y hy;refine key _ rfl rfl ?_ _ g hg;show (r.lems.take _).length<=1000;rw[kX];omega}
def Me {s:Scp}{k i:Int}(h:¬s.fst k i<0):∃ d,d∈s.path/\d.i=i:=by
 have h':0<=s.fst k i:=by omega
 unfold Scp.fst at h';obtain⟨d,hd,hd2⟩:=eH.1 ((Wq _ _).1 h');simp only[yP,decide_eq_true_eq] at hd2;exact⟨d,hd,hd2.2.1⟩
def HJ {t:Scp}{r:Rsn}(hv:w4 t.q r=true)(h0:0<r.cl.length)(hp:t.path=(r.cl.map xM).take (r.cl.length-1)):(qQ t r).2=9:=by
 have hv':=hv;rw[pL] at hv;simp only[yP] at hv;obtain⟨pw,_⟩:=Aa hv.2.1;obtain⟨c,hc⟩:=zS (l:=r.cl) (i:=r.cl.length-1) oM;have key:t.fst (xM c).k c.1<0:=by
  refine Decidable.byContradiction λe=>?_;obtain⟨d,hd,hdi⟩:=Me e;rw[hp] at hd;obtain⟨j,hj⟩:=cR hd;rw[List.getElem?_take] at hj;split at hj
  ·rename_i hlt;rw[dH] at hj;cases hx:r.cl[j]? with
   |none=>rw[hx] at hj;cases hj
   |some a =>
    (rw[hx] at hj;have e2:xM a=d:=kF hj;have:=HV.1 pw j (r.cl.length-1) (wE.1 hx).1 oM hlt;have e3:r.cl[j]'(wE.1 hx).1=a:=(wE.1 hx).2;have e4:r.cl[r.cl.length-1]'oM=c:=(wE.1 hc).2;rw[e3,e4] at this;have e5:d.i=a.1:=by rw[<-e2];rfl);omega
  {cases hj}
 unfold qQ;rw[if_neg (by rw[hv'];decide),if_pos (eH.2 ⟨c,z3 hc,decide_eq_true key⟩)]
def KQ {q:Qry}{RL:List Lem}{r:Rsn}(hv:w4 q r=true)(hR:Ve q (r.cl.map xM) RL)(h0:(qQ ⟨q,r.cl.map xM,RL⟩ r).2=0):(⟨q,r.cl.map xM,RL++(qQ ⟨q,r.cl.map xM,RL⟩ r).1.lems⟩:Scp).scopeB=true/\(⟨q,r.cl.map xM,RL++(qQ ⟨q,r.cl.map xM,RL⟩ r).1.lems⟩:Scp).closes (qQ ⟨q,r.cl.map xM,RL⟩ r).1.em (qQ ⟨q,r.cl.map xM,RL⟩ r).1.pf=true:=by have hv':=hv;rw[pL] at hv;simp only[yP] at hv;obtain⟨h1,h2⟩:=Hz (q:=q) (path:=r.cl.map xM) (L:=r.lems) (RL:=RL) (λd hd=>by obtain⟨x,_,rfl⟩:=yZ.1 hd;unfold xM;dsimp only;split <;> simp) hv.2.2.1 hR;unfold qQ at h0 ⊢;rw[if_neg (by rw[hv'];decide)] at h0 ⊢;split at h0;{cases h0};{rename_i e;rw[if_neg e];exact⟨h1,h2 _ _ hv.2.2.2⟩}
theorem Rw.loc {x:FQry}{s:Scp}{p c:Nat}(h:Rw x s p c)(hx:Sq x)(hc:c<=1000)(hp:p<=1000):s.sz (2^16):=by have hpl:=h.pl;have hlen:=h.len;refine⟨h.qz.mono (by decide),⟨by omega,λd hd=>(h.z.p d hd).mono (by decide)⟩,⟨by omega,λm hm=>?_,λm hm=>(h.l m hm).2.1⟩⟩;obtain⟨q,hq⟩:=(h.l m hm).1;have hf:=h.z.lb13 m hm;rw[hq,z6] at hf;rw[hq];exact zU (hf.mono (by decide))
def Ub (raw:List UInt8){r:Rsn}(hz:Rs16 (clo raw).q r)(hv:w4 (clo raw).q r=true)(P:List Dec)(hP:P=r.cl.map xM\/P=(r.cl.map xM).take (r.cl.length-1))(n:Nat):∃ (L:List Lem) (N:Rsn) (E:Int),L.length<=1000/\N.lems.length<=1000 /\ zC 37 [iV n,sv ⟨(clo raw).q,P,[]⟩,iV 0] (.tup [sv ⟨(clo raw).q,P,L⟩,iV 0]) /\ zC 38 [sv ⟨(clo raw).q,P,L⟩,rsv r] (.tup [SW N,iV E]) /\ zC 39 [sv ⟨(clo raw).q,P,L⟩,rsv r] (.tup [SW N,iV E]) /\ zC 36 [llv N.lems,llv N.lems] (zL true) /\ zC 40 [mlv N.pf,mlv N.pf] (zL true) /\ (E=0->zC 41 [sv ⟨(clo raw).q,P,L++N.lems⟩] (zL true)/\zC 42 [sv ⟨(clo raw).q,P,L++N.lems⟩,zL N.em,mlv N.pf] (zL true)):=by
 have ft:=QI raw;have lr:=ft.lnr;have hq:=Lc raw;have hx:=pH raw;have hcl:=hz.cl;have hG:(ZM (fdY raw 0).1.goal (oV (mE raw))).wf (((fdY raw 0).1.g.n+(fdY raw 0).1.g.us.length:Nat):Int):=by have h7:=hx.o.goal;unfold ZM;split;{exact⟨h7.cn,h7.v⟩};{exact h7}
 obtain⟨y,hy⟩:∃ y:FQry,y=⟨(fdY raw 0).1.g,(fdY raw 0).1.r,ZM (fdY raw 0).1.goal (oV (mE raw))⟩:=⟨_,rfl⟩;have hyq:(clo raw).q=y.q:=by rw[hq,hy];rfl
 have Y:Yok y:=by have n2:=hx.s.g.n2;have u4:=hx.s.g.us;refine⟨⟨?_,?_,?_,?_⟩,by rw[<-hyq];exact ft.w.v,?_,?_,?_⟩;{rw[hy];exact hx.o.us};{rw[hy];exact hx.o.os};{rw[hy];exact hx.o.rows};{rw[hy];exact hG};{rw[hy];exact hx.s.r.bs};{rw[hy];show (fdY raw 0).1.g.n<=1000;omega};{rw[hy];show (fdY raw 0).1.g.us.length<=1000;omega}
 have hPm:∀ d,d∈P->d∈r.cl.map xM:=λd hd=>by rcases hP with e|e;{rw[<-e];exact hd};{rw[e] at hd;exact aE hd}
 have hPl:P.length<=900:=by rcases hP with e|e;{rw[e,y4];exact hcl};{rw[e,kX,y4];omega}
 have hw:Rw (fdY raw 0).1 ⟨(clo raw).q,P,[]⟩ 900 0:=⟨⟨by rw[hq];rfl,by rw[hq];rfl,λd hd=>by obtain⟨c,_,rfl⟩:=yZ.1 (hPm d hd);exact⟨xA _,xA _⟩,vL hPl (by decide),λm hm=>absurd hm (by simp)⟩,ft.w.v,ft.w.qz,hPl,yD _,λm hm=>absurd hm (by simp),λi m hm=>by simp at hm⟩;have cru:=Sr hx hw (by decide) (by decide) n;have hw2:=hw.run hx n;obtain⟨L,hL,hgood⟩:=Cf Y (path:=P) (L:=[]) (λi m h=>by simp at h) n;rw[<-hyq] at hL hgood;rw[hL] at cru hw2;have hLl:L.length<=0+8:=hw2.len;have hz2:=hw2.loc hx (by decide) (by decide);have hps:Psz ⟨(clo raw).q,P,L⟩:=⟨hz2.q.mono (by decide),⟨hz2.path.len,λd hd=>(hz2.path.sz d hd).mono (by decide)⟩,ft.w.v⟩;have hrows:=JO hz hv;have c1:=LC ⟨(clo raw).q,P,L⟩ r hz.ok hps (by show L.length<_;omega) (λ_=>hrows);have c2:=Lz ⟨(clo raw).q,P,L⟩ r hz.ok (hz.vdr lr.hg lr.hv) hps (by show L.length<_;omega) (λ_=>hrows);have hN:(qQ ⟨(clo raw).q,P,L⟩ r).1.lems.length<=1000/\(∀ m,m∈(qQ ⟨(clo raw).q,P,L⟩ r).1.lems->m.v.sz (2^16)/\Msz (2^16) m.pf/\m.pf.length<=20)/\Msz (2^16) (qQ ⟨(clo raw).q,P,L⟩ r).1.pf/\(qQ ⟨(clo raw).q,P,L⟩ r).1.pf.length<=20:=by have h0:R00n.lems.length<=1000/\(∀ m,m∈R00n.lems->m.v.sz (2^16)/\Msz (2^16) m.pf/\m.pf.length<=20)/\Msz (2^16) R00n.pf/\R00n.pf.length<=20:=⟨by decide,λm hm=>absurd hm (by simp[R00n]),⟨by decide,λm hm=>absurd hm (by simp[R00n])⟩,by decide⟩;have hm:∀ {l:List Mult} (d:Int),Msz (2^16) l->Msz (2^16) (l.map (shM d)):=λd h=>⟨by rw[y4];exact h.len,λm hm=>by obtain⟨z,hz,rfl⟩:=yZ.1 hm;exact h.sz z hz⟩;unfold qQ;split;{exact h0};{split;{exact h0};{refine⟨by show (r.lems.map _).length<=_;rw[y4];exact hz.n,λm hm'=>?_,hm _ hz.pz,by show (r.pf.map _).length<=_;rw[y4];exact hz.pn⟩;obtain⟨z,hz',rfl⟩:=yZ.1 hm';obtain⟨g1,g2,g3⟩:=hz.lz z hz';exact⟨g1,hm _ g2,by show (z.pf.map _).length<=_;rw[y4];exact g3⟩}}
 obtain⟨n1,n2,n3,n4⟩:=hN;have c3:=Lp (qQ ⟨(clo raw).q,P,L⟩ r).1.lems oM (λm hm=>⟨(n2 m hm).1.mono (by decide),(n2 m hm).2.1.mono (by decide)⟩);have c4:=Gj (qQ ⟨(clo raw).q,P,L⟩ r).1.pf (qQ ⟨(clo raw).q,P,L⟩ r).1.pf (n3.mono (by decide)) (n3.mono (by decide));rw[iN] at c4;refine⟨L,_,_,by omega,n1,cru,c1,c2,c3,c4,λh0=>?_⟩;have hPD:P=r.cl.map xM:=by rcases hP with e|e;{exact e};{by_cases hc0:0<r.cl.length;{have:=HJ (t:=⟨(clo raw).q,P,L⟩) hv hc0 e;rw[this] at h0;cases h0};{have:r.cl=[]:=kD oM;rw[e,this];rfl}}
 subst hPD;obtain⟨g1,g2⟩:=KQ hv hgood h0;have hsz:(⟨(clo raw).q,r.cl.map xM,L++(qQ ⟨(clo raw).q,r.cl.map xM,L⟩ r).1.lems⟩:Scp).sz (2^16):=⟨hz2.q,hz2.path,⟨by show (L++_).length<_;rw[gD];omega,λm hm=>by
  rcases uX.1 hm with g|g;{exact hz2.lems.sz m g}
  ·exact (n2 m g).1,λm hm=>by
  rcases uX.1 hm with g|g;{exact hz2.lems.pf m g}
  ·exact (n2 m g).2.1⟩⟩
 have hpl:∀ m,m∈L++(qQ ⟨(clo raw).q,r.cl.map xM,L⟩ r).1.lems->Msz (2^16) m.pf/\m.pf.length<=20:=λm hm=>by rcases uX.1 hm with g|g;{exact (hw2.l m g).2};{exact (n2 m g).2}
 have k1:=DZ _ (hsz.mono (by decide)) (λi m hm=>nR (hsz.pre i) (hpl m (z3 hm)).1 (hpl m (z3 hm)).2);have k2:=Nx _ (qQ ⟨(clo raw).q,r.cl.map xM,L⟩ r).1.em (qQ ⟨(clo raw).q,r.cl.map xM,L⟩ r).1.pf (hsz.mono (by decide)) lr.hg lr.hv (nR hsz n3 n4);rw[g1] at k1;rw[g2] at k2;exact⟨k1,k2⟩
def Tn (raw : List UInt8) (wd wm : UInt8) (h1 : raw.length ≤ 9223372036854775807) : zC 9 [u8v raw, .int .u8 (fun _ => (wd.toNat : Int)), .int .u8 (fun _ => (wm.toNat : Int))] (zL true) := by
  refine sF Tryz.f9 ?_
  have ca := R9
  have ccl : raw.length < 2^38 → zC 11 [u8v raw] (.tup [sv (clo raw), mlv (mR (aA raw))]) := fun h => Nm raw h
  have ft := QI raw
  have cl := Tl (clo raw) false (mR (aA raw)) (ft.fit (B9 raw)).lrn
  have hval := Za ft.w ft.r (em := false)
  obtain ⟨rz, rl⟩ := ft.rs16 false
  have hm3 : irem (wm.toNat : Int) 3 = ((wm.toNat % 3 : Nat) : Int) := wH (b := 3)
  have hm3l := vK wm.toNat (show 0 < 3 by omega)
  have hwm : wm.toNat < 256 := wm.toNat_lt
  have hw3 : nx .i64 (irem (wm.toNat : Int) 3) = ((wm.toNat % 3 : Nat) : Int) := by rw [hm3]; exact mV oM oM
  have csc := DW (clo raw).q (vW (clo raw) false (mR (aA raw))).1 oM
  rw [show dJ (clo raw).q (vW (clo raw) false (mR (aA raw))).1 = ⟨(clo raw).q, (vW (clo raw) false (mR (aA raw))).1.cl.map xM, (vW (clo raw) false (mR (aA raw))).1.lems⟩ from rfl] at csc
  have pk1 := fun h => Ub raw rz (hval h) _ (.inl rfl) (wm.toNat % 3)
  have pk2 := fun h => Ub raw rz (hval h) _ (.inr rfl) (wm.toNat % 3)
  clear ft rz hval
  generalize vW (clo raw) false (mR (aA raw)) = RE at *
  generalize clo raw = S at *
  generalize mR (aA raw) = CL at *
  obtain ⟨R', E⟩ := RE
  obtain ⟨rc, rlm, re, rp⟩ := R'
  obtain ⟨⟨⟨n, us, os⟩, ⟨lo, hi', rows⟩, ⟨ts, c⟩⟩, path, LS⟩ := S
  dsimp only [sv] at *
  cbv
  refine cA ca ?_
  cbv
  refine dE rfl ?_
  cbv
  refine zF (fun e1 => ?_) (fun e1 => ?_)
  · cbv
    exact rA
  have ccl' := ccl (by rw [zA] at e1; exact om)
  clear ccl
  cbv
  refine cA ccl' ?_
  cbv
  refine cA cl ?_
  clear ca ccl' cl
  cbv
  refine zF (fun e4 => ?_) (fun e4 => ?_)
  rotate_left
  · cbv
    exact rA
  replace pk1 := pk1 (by exact om)
  replace pk2 := pk2 (by exact om)
  cbv
  refine cA csc ?_
  clear csc
  have hPl : (enc dc (rc.map xM)).length = rc.length := by rw [zA, y4]
  cbv
  refine zQ (fun e5 => ?_) (fun e5 => ?_)
  · have e5' : 0 < rc.length := by rw [hPl] at e5; exact om
    cbv
    refine ⟨wG (by decide), ?_⟩
    refine zF (fun e6 => ?_) (fun e6 => ?_)
    · obtain ⟨L9, N9, E9, a1, a2, ru, lp, lr, sl, sm, fn⟩ := pk2
      have hPP : ((enc dc (rc.map xM)).take (((enc dc (rc.map xM)).length : Int) - 1).toNat).drop ((0 : Int)).toNat = enc dc ((rc.map xM).take (rc.length - 1)) := by
        rw [hPl, show ((rc.length : Int) - 1).toNat = rc.length - 1 by omega]
        unfold enc
        rw [Zu]; rfl
      generalize (rc.map xM).take (rc.length - 1) = P9 at *
      clear pk1
      cbv
      refine ⟨zD (by rw [hPl]; exact om) (by rw [hPl]; exact om), vF oM (by rw [hPl]; exact om) (by rw [hPl]; exact om), xE qP _, ?_⟩
      cbv
      refine ⟨wG (by decide), ?_⟩
      refine yJ rfl (by exact ⟨zB hw3, ⟨lR, lR, lR, lR, lR, lR, lR, lR, lR, lR, zR hPP, yM rfl, trivial⟩, lR, trivial⟩) ru rfl ?_
      cbv
      refine cA lp ?_
      cbv
      refine cA lr ?_
      clear ru lp lr
      cbv
      refine wP rfl ?_
      cbv
      refine wP (by simp) ?_
      cbv
      refine wP rfl ?_
      cbv
      refine cA sl ?_
      cbv
      refine rZ rfl ?_
      cbv
      refine cA sm ?_
      clear sl sm
      cbv
      refine dE rfl ?_
      cbv
      refine zF (fun e7 => ?_) (fun e7 => ?_)
      rotate_left
      · cbv
        exact rA
      obtain ⟨f1, f2⟩ := fn (by exact om)
      have hfr : 0 + (L9.length + N9.lems.length) ≤ (enc lc (L9 ++ N9.lems)).length := by rw [zA, gD]; omega
      have hT : ((enc lc (L9 ++ N9.lems)).drop 0).take (L9.length + N9.lems.length) = enc lc (L9 ++ N9.lems) := by rw [wZ, yU (by rw [zA, gD]; omega)]
      clear fn hPP
      cbv
      refine aX (σ := Unit) (fun _ => ⟨[(11, .ptr 11 0), (13, .ptr 13 0)], [(11, .box [iV n, alv us, alv os, rlv lo, rlv hi', alv rows, tsv ts, zL c.neg, nat c.num, nat c.den, dlv P9, yX 113 6 (L9.length + N9.lems.length)]), (13, .box [llv N9.lems, iV 0, iV 0, .ff, .nil, .nil, .nil, zL N9.em, mlv N9.pf]), (113, xF 6 (enc lc (L9 ++ N9.lems)))]⟩) (fun _ => True) (.sel _ [11, 13] [11, 13] rfl) (by cbv) ?_ (fun _ _ => ?_)
      · cbv
        repeat' first
          | exact trivial
          | (refine bN gF rfl rfl rfl rfl rfl rfl (xE y7 _) ?_ rfl ?_
             · exact z8 (by exact uG _) (by simp only [zA]; exact om)
             cbv)
          | (refine jU gF rfl rfl rfl rfl rfl (xE y7 _) ?_ rfl ?_
             · exact z8 (by exact uG _) (by simp only [zA]; exact om)
             cbv)
          | exact ⟨(), trivial, .trans (.sel _ [11, 13] [11, 13, 113] rfl) (.le (by cbv; repeat' first | exact trivial | exact lR | apply And.intro) (by cbv; repeat' first | exact trivial | exact lR | exact zT rfl (by simp only [zA]) | exact zG (by unfold enc; rw [gP]) | apply And.intro) rfl)⟩
          | apply And.intro
      · cbv
        refine qR (.frz 113 rfl rfl (by cbv; repeat' first | exact trivial | exact zZ hfr | apply And.intro) (by cbv; repeat' first | exact trivial | exact zZ hfr | apply And.intro)) rfl (by exact ⟨⟨lR, lR, lR, lR, lR, lR, lR, lR, lR, lR, lR, zR hT, trivial⟩, trivial⟩) f1 rfl ?_
        cbv
        refine rZ rfl ?_
        cbv
        refine yJ rfl (by exact ⟨⟨lR, lR, lR, lR, lR, lR, lR, lR, lR, lR, lR, zR hT, trivial⟩, lR, lR, trivial⟩) f2 rfl ?_
        cbv
        exact rA
    · obtain ⟨L9, N9, E9, a1, a2, ru, lp, lr, sl, sm, fn⟩ := pk1
      generalize rc.map xM = P9 at *
      have hPP : enc dc P9 = enc dc P9 := rfl
      clear pk2
      cbv
      refine ⟨wG (by decide), ?_⟩
      refine yJ rfl (by exact ⟨zB hw3, ⟨lR, lR, lR, lR, lR, lR, lR, lR, lR, lR, zR hPP, yM rfl, trivial⟩, lR, trivial⟩) ru rfl ?_
      cbv
      refine cA lp ?_
      cbv
      refine cA lr ?_
      clear ru lp lr
      cbv
      refine wP rfl ?_
      cbv
      refine wP (by simp) ?_
      cbv
      refine wP rfl ?_
      cbv
      refine cA sl ?_
      cbv
      refine rZ rfl ?_
      cbv
      refine cA sm ?_
      clear sl sm
      cbv
      refine dE rfl ?_
      cbv
      refine zF (fun e7 => ?_) (fun e7 => ?_)
      rotate_left
      · cbv
        exact rA
      obtain ⟨f1, f2⟩ := fn (by exact om)
      have hfr : 0 + (L9.length + N9.lems.length) ≤ (enc lc (L9 ++ N9.lems)).length := by rw [zA, gD]; omega
      have hT : ((enc lc (L9 ++ N9.lems)).drop 0).take (L9.length + N9.lems.length) = enc lc (L9 ++ N9.lems) := by rw [wZ, yU (by rw [zA, gD]; omega)]
      clear fn hPP
      cbv
      refine aX (σ := Unit) (fun _ => ⟨[(11, .ptr 11 0), (13, .ptr 13 0)], [(11, .box [iV n, alv us, alv os, rlv lo, rlv hi', alv rows, tsv ts, zL c.neg, nat c.num, nat c.den, dlv P9, yX 113 6 (L9.length + N9.lems.length)]), (13, .box [llv N9.lems, iV 0, iV 0, .ff, .nil, .nil, .nil, zL N9.em, mlv N9.pf]), (113, xF 6 (enc lc (L9 ++ N9.lems)))]⟩) (fun _ => True) (.sel _ [11, 13] [11, 13] rfl) (by cbv) ?_ (fun _ _ => ?_)
      · cbv
        repeat' first
          | exact trivial
          | (refine bN gF rfl rfl rfl rfl rfl rfl (xE y7 _) ?_ rfl ?_
             · exact z8 (by exact uG _) (by simp only [zA]; exact om)
             cbv)
          | (refine jU gF rfl rfl rfl rfl rfl (xE y7 _) ?_ rfl ?_
             · exact z8 (by exact uG _) (by simp only [zA]; exact om)
             cbv)
          | exact ⟨(), trivial, .trans (.sel _ [11, 13] [11, 13, 113] rfl) (.le (by cbv; repeat' first | exact trivial | exact lR | apply And.intro) (by cbv; repeat' first | exact trivial | exact lR | exact zT rfl (by simp only [zA]) | exact zG (by unfold enc; rw [gP]) | apply And.intro) rfl)⟩
          | apply And.intro
      · cbv
        refine qR (.frz 113 rfl rfl (by cbv; repeat' first | exact trivial | exact zZ hfr | apply And.intro) (by cbv; repeat' first | exact trivial | exact zZ hfr | apply And.intro)) rfl (by exact ⟨⟨lR, lR, lR, lR, lR, lR, lR, lR, lR, lR, lR, zR hT, trivial⟩, trivial⟩) f1 rfl ?_
        cbv
        refine rZ rfl ?_
        cbv
        refine yJ rfl (by exact ⟨⟨lR, lR, lR, lR, lR, lR, lR, lR, lR, lR, lR, zR hT, trivial⟩, lR, lR, trivial⟩) f2 rfl ?_
        cbv
        exact rA
  · obtain ⟨L9, N9, E9, a1, a2, ru, lp, lr, sl, sm, fn⟩ := pk1
    generalize rc.map xM = P9 at *
    have hPP : enc dc P9 = enc dc P9 := rfl
    clear pk2
    cbv
    refine ⟨wG (by decide), ?_⟩
    refine yJ rfl (by exact ⟨zB hw3, ⟨lR, lR, lR, lR, lR, lR, lR, lR, lR, lR, zR hPP, yM rfl, trivial⟩, lR, trivial⟩) ru rfl ?_
    cbv
    refine cA lp ?_
    cbv
    refine cA lr ?_
    clear ru lp lr
    cbv
    refine wP rfl ?_
    cbv
    refine wP (by simp) ?_
    cbv
    refine wP rfl ?_
    cbv
    refine cA sl ?_
    cbv
    refine rZ rfl ?_
    cbv
    refine cA sm ?_
    clear sl sm
    cbv
    refine dE rfl ?_
    cbv
    refine zF (fun e7 => ?_) (fun e7 => ?_)
    rotate_left
    · cbv
      exact rA
    obtain ⟨f1, f2⟩ := fn (by exact om)
    have hfr : 0 + (L9.length + N9.lems.length) ≤ (enc lc (L9 ++ N9.lems)).length := by rw [zA, gD]; omega
    have hT : ((enc lc (L9 ++ N9.lems)).drop 0).take (L9.length + N9.lems.length) = enc lc (L9 ++ N9.lems) := by rw [wZ, yU (by rw [zA, gD]; omega)]
    clear fn hPP
    cbv
    refine aX (σ := Unit) (fun _ => ⟨[(11, .ptr 11 0), (13, .ptr 13 0)], [(11, .box [iV n, alv us, alv os, rlv lo, rlv hi', alv rows, tsv ts, zL c.neg, nat c.num, nat c.den, dlv P9, yX 113 6 (L9.length + N9.lems.length)]), (13, .box [llv N9.lems, iV 0, iV 0, .ff, .nil, .nil, .nil, zL N9.em, mlv N9.pf]), (113, xF 6 (enc lc (L9 ++ N9.lems)))]⟩) (fun _ => True) (.sel _ [11, 13] [11, 13] rfl) (by cbv) ?_ (fun _ _ => ?_)
    · cbv
      repeat' first
        | exact trivial
        | (refine bN gF rfl rfl rfl rfl rfl rfl (xE y7 _) ?_ rfl ?_
           · exact z8 (by exact uG _) (by simp only [zA]; exact om)
           cbv)
        | (refine jU gF rfl rfl rfl rfl rfl (xE y7 _) ?_ rfl ?_
           · exact z8 (by exact uG _) (by simp only [zA]; exact om)
           cbv)
        | exact ⟨(), trivial, .trans (.sel _ [11, 13] [11, 13, 113] rfl) (.le (by cbv; repeat' first | exact trivial | exact lR | apply And.intro) (by cbv; repeat' first | exact trivial | exact lR | exact zT rfl (by simp only [zA]) | exact zG (by unfold enc; rw [gP]) | apply And.intro) rfl)⟩
        | apply And.intro
    · cbv
      refine qR (.frz 113 rfl rfl (by cbv; repeat' first | exact trivial | exact zZ hfr | apply And.intro) (by cbv; repeat' first | exact trivial | exact zZ hfr | apply And.intro)) rfl (by exact ⟨⟨lR, lR, lR, lR, lR, lR, lR, lR, lR, lR, lR, zR hT, trivial⟩, trivial⟩) f1 rfl ?_
      cbv
      refine rZ rfl ?_
      cbv
      refine yJ rfl (by exact ⟨⟨lR, lR, lR, lR, lR, lR, lR, lR, lR, lR, lR, zR hT, trivial⟩, lR, lR, trivial⟩) f2 rfl ?_
      cbv
      exact rA
end Go.Proofs.YtaeaffgjdcigoaaGreat
