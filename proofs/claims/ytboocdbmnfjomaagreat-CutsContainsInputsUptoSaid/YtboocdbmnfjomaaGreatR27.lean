/- A part of the proof: SpE, SpF, SpG, SpH, SpI, SpJ, SpK, SpL, SpM, SpN. -/
import Derived.Test.YtboocdbmnfjomaaGreatR26
set_option linter.all false
namespace Go.Proofs.YtboocdbmnfjomaaGreat
open Go
def LB (K:Nat->Nat) (L:List Lem):Prop:=∀ m,m∈L->∃ i:Nat,m.u=i/\Fits (K i) m.v.q
def B7 {K:Nat->Nat}{s:Scp}(hK:∀ i,1<=K i)(h:LB K s.lems)(k:Int)(i:Nat)(up:Bool):Fits (K i) ((s.lem k i up).getD 0):=by
 unfold Scp.lem;split
 ·split
  ·rename_i m hm;split
   ·(rename_i e;obtain⟨i',e',hf⟩:=h m (z8 hm);have:i'=i:=by omega);simp_all
   {exact xT (hK i)}
  {exact xT (hK i)}
 grind [xT]
def Cl {K:Nat->Nat}{s:Scp}(h:LB K s.lems){i k:Nat}(hk:k=(s.best i).1\/k=(s.best i).2)(h0:k≠0):Fits (K i) (wP s.lems k):=by obtain⟨m,hm,hu⟩:=sA hk h0;obtain⟨i',e',hf⟩:=h m (z8 hm);grind [wP]
def Td {s:Scp}{x:FQry}(hq:s.q=x.q)(hx:x.small){r:Row}(hr:r.k=1\/r.k=2){f:F}(h:s.fm r=some f):f.fl 6 3000:=by
 unfold Scp.fm at h;split at h;{cases h};rw[if_pos oM] at h;unfold Scp.fIn at h;split at h
 ·split at h
  ·cases hy:s.q.r.lo[r.i.toNat]? with
   |none=>grind| some y =>
    rw[hy] at h;cases h;have hm:=z8 hy;rw[hq] at hm;obtain⟨b,hb,rfl⟩:=y9.1 hm;dsimp only;rw[z7];exact ((fC r.i).sub (kJ (hx.r.bf b hb).1)).mono oM oM
  ·split at h
   ·cases hy:s.q.r.hi[r.i.toNat]? with
    |none=>grind| some y =>
     rw[hy] at h;cases h;have hm:=z8 hy;rw[hq] at hm;obtain⟨b,hb,rfl⟩:=y9.1 hm;dsimp only;rw[z7];exact ((kJ (hx.r.bf b hb).2).sub (fC r.i)).mono oM oM
   {omega}
 grind
def SH {s:Scp}{r:Row}{p v:F}{l u:Option Rat}{K:Nat}{f:F}(hk:1<=K)(hp:p.fl 43 7)(hv:v.fl 1 1)(hl:Fits K (l.getD 0))(hu:Fits K (u.getD 0))(h:unF s r p v l u=some f):f.fl (4*K+60) 3000:=by
 unfold unF at h;generalize l.getD 0=lq at *;generalize u.getD 0=uq at *;have two:∀ {c:Prop} [Decidable c] {x:F},(if c then some x else none)=some f->x=f:=λh=>by grind
 split at h;{rw[<-two h];exact hv.mono oM oM};split at h;{rw[<-two h];exact (hv.sub hp).mono oM oM};split at h;{rw[<-two h];exact (hp.add zero_fl).mono oM oM};split at h;{rw[<-two h];exact (hp.sub hv).mono oM oM};split at h;{rw[<-two h];exact (hp.scale uA).mono oM oM};split at h;{rw[<-two h];exact (hv.scale uA).mono oM oM};split at h;{rw[<-two h];exact (hp.sub (kJ hl)).mono oM oM};split at h;{rw[<-two h];exact ((kJ hu).sub hp).mono oM oM};split at h;{rw[<-two h];exact (((hp.sub (kJ hl)).scale hu).sub (hv.scale (dS hu hl))).mono oM oM};grind
def As {s:Scp}{x:FQry}{K:Nat->Nat}(hq:s.q=x.q)(hx:x.small)(hK:∀ i,1<=K i)(hL:LB K s.lems){r:Row}{i:Nat}(hr:5<=r.k)(hi:r.i=i){f:F}(h:s.fm r=some f):f.fl (4*K i+60) 3000:=by
 unfold Scp.fm at h;split at h;{cases h};rw[if_neg oM] at h;unfold Scp.fUn at h;split at h
 ·cases hy:s.q.g.us[r.i.toNat]? with
  |none=>grind| some p =>
   rw[hy] at h;have hm:=z8 hy;rw[hq] at hm;obtain⟨b,hb,rfl⟩:=y9.1 hm;rw[hi] at h;dsimp only at h;rw[kQ] at h;exact SH (hK i) (hx.g.uf b hb) (fC _) (B7 hK hL _ _ _) (B7 hK hL _ _ _) h
 grind
def cst (K:Nat->Nat) (n v:Nat):Nat:=if v<n then 60 else 13*K (v-n)+230
def X7 {s:Scp}{r:Row}{g:Nat}(hg:∀ f,s.fm r=some f->f.fl g 3000):Wt s [(r,1)] (g+6):=(Wt.cons fits_one hg .nil).to oM
def B8 {s:Scp}{x:FQry}{K:Nat->Nat}(hq:s.q=x.q)(hx:x.small)(hK:∀ i,1<=K i)(hL:LB K s.lems)(v:Nat):∃ B,B+48*(s.atLeastM v).length<=cst K x.g.n v/\Wt s (s.atLeastM v) B:=by
 have hn:s.q.g.n=(x.g.n:Int):=by rw[hq];rfl
 unfold Scp.atLeastM cst;rw[hn];by_cases h:v<x.g.n;{rw[if_pos oM,if_pos h];exact⟨_,by simp,X7 λf hf=>Td hq hx (.inl rfl) hf⟩};{rw[if_neg oM,if_neg h];exact⟨_,by grind,X7 λf hf=>As (i:=v-x.g.n) hq hx hK hL (by grind) (by grind) hf⟩}
def N1 {s:Scp}{x:FQry}{K:Nat->Nat}(hq:s.q=x.q)(hx:x.small)(hK:∀ i,1<=K i)(hL:LB K s.lems){i lo hi:Nat}{l u:Rat}(hl:Fits (K i) l)(hu:Fits (K i) u):∃ B,B+48*(upM i lo hi l u).length<=13*K i+230/\Wt s (upM i lo hi l u) B:=by
 have hg:∀ (k lo hi:Int),5<=k->∀ f,s.fm ⟨k,i,lo,hi⟩=some f->f.fl (4*K i+60) 3000:=λk lo hi hk f hf=>As hq hx hK hL hk rfl hf;have h1:=hK i;have hs:=WH (dS hu hl);have hd:Fits (2*K i+1) (1/(u-l)):=by grind
 unfold upM;split;{exact⟨_,by grind,X7 (hg _ _ _ (by decide))⟩};{split;{exact⟨_,by grind,Wt.cons fits_one (hg _ _ _ (by decide)) (X7 (hg _ _ _ (by decide)))⟩};{exact⟨_,by grind,Wt.cons ((x5 hd hu).mono (k:=_) (m:=3*K i+2) oM) (hg _ _ _ (by decide)) (Wt.cons hd (hg _ _ _ (by decide)) .nil)⟩}}
theorem Ff {s:Scp}{x:FQry}{K:Nat->Nat}(hq:s.q=x.q)(hx:x.small)(hK:∀ i,1<=K i)(hL:LB K s.lems)(v:Nat){more:List (Row×Rat)}(h:s.atMostM v=some more):∃ B,B+48*more.length<=cst K x.g.n v/\Wt s more B:=by
 have hn:s.q.g.n=(x.g.n:Int):=by rw[hq];rfl
 unfold Scp.atMostM at h;unfold cst;rw[hn] at h;by_cases hv:v<x.g.n;{rw[if_pos oM] at h;rw[if_pos hv];cases h;exact⟨_,by simp,X7 λf hf=>Td hq hx (.inr rfl) hf⟩}
 ·(rw[if_neg oM] at h;rw[if_neg hv];have e:(v:Int)-x.g.n=((v-x.g.n:Nat):Int):=by omega);rw[e] at h
  split at h;{cases h};{rename_i hb;cases h;exact N1 hq hx hK hL (Cl hL (.inl rfl) (λg=>hb (.inl g))) (Cl hL (.inr rfl) (λg=>hb (.inr g)))}
def iC (K:Nat->Nat) (n:Nat):Nat->Nat
 |0=>0| v+1=>iC K n v+cst K n v
def Ya {K:Nat->Nat}{n a b:Nat}(h:a<=b):iC K n a<=iC K n b:=by
 induction b with
 |zero=>grind| succ b ih =>
  by_cases e:a=b+1;{grind};grind [iC]
def Ym {s:Scp}{x:FQry}{K:Nat->Nat}(hq:s.q=x.q)(hx:x.small)(hK:∀ i,1<=K i)(hL:LB K s.lems){hi:Nat}:∀ {ts:List (Int×Rat)} {l l':List (Row×Rat)} {N lo:Nat},Cn ts->(∀ t,t∈ts->(lo:Int)<=t.1/\t.1<hi)->(∀ t,t∈ts->Fits 46 t.2)->lo<=hi->Wt s l N->s.aboveL ts l=some l'->∃ M,M+iC K x.g.n lo<=N+iC K x.g.n hi/\Wt s l' M
 |[],l,l',N,lo,_,_,_,hlh,hw,h=>by cases h;exact⟨N,by have:=Ya (K:=K) (n:=x.g.n) hlh;omega,hw⟩
 |t::r,l,l',N,lo,hc,hv,hf,hlh,hw,h=>by
  (obtain⟨h1,h2⟩:=hv t wZ;obtain⟨v,hv1⟩:∃ v:Nat,t.1=v:=⟨t.1.toNat,by omega⟩;unfold Scp.aboveL at h;have hm:∀ {more:List (Row×Rat)},(if 0<yF t.2 then some (s.atLeastM t.1) else s.atMostM t.1)=some more->∃ B,B+48*more.length<=cst K x.g.n v/\Wt s more B:=λ{more} g=>by rw[hv1] at g;split at g;{cases g;exact B8 hq hx hK hL v};grind [Ff]);split at h;{cases h}
  ·(rename_i more hmore;obtain⟨B,b1,b2⟩:=hm hmore;obtain⟨M1,m1,m2⟩:=Wt.merge (l5 (hf t wZ)) b2 hw;have hlo:∀ u,u∈r->((v+1:Nat):Int)<=u.1/\u.1<hi:=λu hu=>by have g1:=hc.lt u hu;grind);obtain⟨M,k1,k2⟩:=Ym hq hx hK hL (hi:=hi) (lo:=v+1) hc.tail hlo (λu hu=>hf u (wJ _ hu)) oM m2 h;refine⟨M,?_,k2⟩;have c1:=Ya (K:=K) (n:=x.g.n) (a:=lo) (b:=v) oM;have c2:iC K x.g.n (v+1)=iC K x.g.n v+cst K x.g.n v:=rfl;omega
theorem SG (j:Int)(lo hi:Nat)(l u:Rat):(upM j lo hi l u).length<=2:=by grind [upM]
theorem Ja {s:Scp}{v:Int}{more}(h:s.atMostM v=some more):more.length<=2:=by grind [Scp.atMostM,SG]
def DJ (s:Scp)(v:Int):(s.atLeastM v).length<=2:=by grind [Scp.atLeastM]
def eY {s:Scp}:∀ {ts:List (Int×Rat)} {l l':List (Row×Rat)},s.aboveL ts l=some l'->l'.length<=l.length+2*ts.length
 |[],l,l',h=>by cases h;simp
 |t::r,l,l',h=>by
  unfold Scp.aboveL at h;split at h;{cases h}
  ·(rename_i more hmore;have h1:more.length<=2:=by split at hmore;{cases hmore;exact DJ _ _};grind [Ja]);have h2:=Uo (cC t.2) more l;have h3:=eY h;grind
def Sx {s:Scp}{x:FQry}{K:Nat->Nat}(hq:s.q=x.q)(hx:x.small)(hK:∀ i,1<=K i)(hL:LB K s.lems){f:F}{hi:Nat}(hf:f.fl 46 7)(hw:f.wf hi){v:Rat×List (Row×Rat)}(h:s.above f=some v):Fits (49+iC K x.g.n hi) v.1/\(∀ t,t∈v.2->Fits (iC K x.g.n hi) t.2)/\v.2.length<=14:=by
 unfold Scp.above at h;cases hl:s.aboveL f.ts [] with
 |none=>grind| some l =>
  rw[hl] at h;cases h;obtain⟨M,h1,h2⟩:=Ym hq hx hK hL (hi:=hi) (lo:=0) hw.cn (λt ht=>by have:=hw.v t ht;omega) hf.t (xK _) .nil hl;have h3:iC K x.g.n 0=0:=rfl;have h4:=eY hl;have h5:=hf.len;refine⟨((hf.sub h2.sum).c).mono oM,λt ht=>(h2.mem t ht).mono oM,?_⟩;grind
def KK:Nat->Nat
 |0=>230| 1=>3450| 2=>48530| _=>679650
def Kr (i:Nat):1<=KK i:=by unfold KK;grind
def Tr {n j:Nat}(h1:1<=n)(h2:n<=3)(h3:j<=3):49+iC KK n (n+j)<=KK j:=by
 have:∀ n:Fin 4,∀ j:Fin 4,1<=n.val->49+iC KK n.val (n.val+j.val)<=KK j.val:=by decide +kernel
 exact this ⟨n,by omega⟩ ⟨j,by omega⟩ h1
def Hj (i:Nat):KK i<=679650:=by unfold KK;grind
structure Lok (L:List Lem) (j:Nat):Prop where
 lb:LB KK L
 len:L.length<=2*j
 pf:∀ m,m∈L->Msz 679650 m.pf/\m.pf.length<=14
 v:∀ m,m∈L->∃ q,m.v=zI q
def MV {l:List (Row×Rat)}{k:Nat}(h:∀ t,t∈l->Fits k t.2)(hl:l.length<=14):Msz k (mR l):=⟨by grind [qS],λm hm=>by obtain⟨t,ht,rfl⟩:=y9.1 hm;grind [zX]⟩
def J3 {x:FQry}(hx:x.small)(hwf:∀ (i:Nat) (f:F),x.g.us[i]?=some f->f.wf ((x.g.n+i:Nat):Int)){path:List Dec}{j:Nat}{f:F}(hfj:x.g.us[j]?=some f){L:List Lem}(h:Lok L j):Lok (L++VO j ((⟨x.q,path,L⟩:Scp).above f) ((⟨x.q,path,L⟩:Scp).above (f.scale (-1)))) (j+1)/\(∀ v,(⟨x.q,path,L⟩:Scp).above (f.scale (-1))=some v->Fits (2^20) v.1):=by
 obtain⟨hlen,he⟩:=wI.1 hfj;have hj:j<=3:=by have:=hx.g.us;omega
 have hf:=hx.g.uf _ (z8 hfj);have hw:=hwf j f hfj;have ok:=Tr hx.g.n1 hx.g.n2 hj;have kl:=Hj j;have key:∀ {f:F} {v:Rat×List (Row×Rat)},f.fl 46 7->f.wf ((x.g.n+j:Nat):Int)->(⟨x.q,path,L⟩:Scp).above f=some v->Fits (KK j) v.1/\Msz 679650 (mR v.2)/\(mR v.2).length<=14:=λhf hw hv=>by obtain⟨g1,g2,g3⟩:=Sx (s:=⟨x.q,path,L⟩) rfl hx Kr h.lb hf hw hv;exact⟨g1.mono ok,MV (λt ht=>(g2 t ht).mono oM) g3,by grind [qS]⟩
 have kx:=λv hv=>key (v:=v) (hf.mono (by decide) (by decide)) hw hv;have ky:=λv hv=>key (v:=v) ((hf.scale uA).mono (by decide) (by decide)) hw.scale hv;refine⟨?_,λv hv=>(ky v hv).1.mono (vV kl (by decide))⟩;generalize (⟨x.q,path,L⟩:Scp).above f=X at *;generalize (⟨x.q,path,L⟩:Scp).above (f.scale (-1))=Y at *;have mem:∀ m,m∈VO j X Y->m.u=(j:Int)/\Fits (KK j) m.v.q/\Msz 679650 m.pf/\m.pf.length<=14/\∃ q,m.v=zI q:=λm hm=>by
  unfold VO at hm;rcases w6.1 hm with hm|hm
  ·cases X with
   |none=>grind| some v =>
    (have:m=⟨j,false,zI v.1,mR v.2⟩:=by grind);obtain⟨g1,g2,g3⟩:=kx v rfl
    rw[this];exact⟨rfl,by grind [z7],g2,g3,_,rfl⟩
  ·cases Y with
   |none=>grind| some v =>
    (have:m=⟨j,true,zI (-v.1),mR v.2⟩:=by grind);obtain⟨g1,g2,g3⟩:=ky v rfl
    rw[this];exact⟨rfl,by show Fits _ (zI (-v.1)).q;rw[z7];exact bT g1,g2,g3,_,rfl⟩
 refine⟨λm hm=>?_,?_,λm hm=>?_,λm hm=>?_⟩;{rcases w6.1 hm with hm|hm;{exact h.lb m hm};grind}
 ·(rw[vE];have:(VO j X Y).length<=2:=by unfold VO;grind);have:=h.len
  omega
 {rcases w6.1 hm with hm|hm;{exact h.pf m hm};grind};{rcases w6.1 hm with hm|hm;{exact h.v m hm};grind}
def FN {x:FQry}(hx:x.small)(hwf:∀ (i:Nat) (f:F),x.g.us[i]?=some f->f.wf ((x.g.n+i:Nat):Int)){path:List Dec}:∀ {us:List A} {j:Nat} {L:List Lem},us=(x.g.us.drop j).map fA->Lok L j->Lok (YV x.q path us j L) (j+us.length)
 |[],j,L,_,h=>h| p::r,j,L,hu,h=>by
  have hlen:j<x.g.us.length:=by
   (have:(x.g.us.drop j).length≠0:=by grind);grind
  (have hd:x.g.us.drop j=x.g.us[j]::x.g.us.drop (j+1):=(YN hlen);rw[hd] at hu;simp only[j3,List.cons.injEq] at hu;obtain⟨hp,hr⟩:=hu;have e1:p.f=x.g.us[j]:=by rw[hp,kQ]);have hs:=(J3 hx hwf (path:=path) (j:=j) (f:=x.g.us[j]) (by grind) h).1
  unfold YV;rw[e1];have:=FN hx hwf (path:=path) (us:=r) (j:=j+1) hr hs;grind
def Gj (raw:List UInt8)(a:Nat)(i:Nat)(f:F)(h:(fdG raw a).1.us[i]?=some f):f.wf (((fdG raw a).1.n+i:Nat):Int):=by have:=QK (raw:=raw) (d:=1) h;rw[ZD] at this;exact this
def t6 (raw:List UInt8):Lok (fdS raw).bounded.lems 4:=by
 have h:=vD raw 0;have:=FN h (Gj raw 0) (path:=(fdS raw).path) (us:=(fdY raw 0).1.g.us.map fA) (j:=0) (L:=[]) (by simp) ⟨λm hm=>absurd hm (by simp),by simp,λm hm=>absurd hm (by simp),λm hm=>absurd hm (by simp)⟩;have hl:=h.g.us;exact⟨this.lb,by
  have:=this.len;rw[yN] at this;show (YV _ _ _ _ _).length<=_;exact vV this oM,this.pf,this.v⟩
def eN (raw:List UInt8):(fdS raw).bounded.sz (2^20):=by have h:=t6 raw;have g:=WK raw;refine⟨g.q.mono (by decide),⟨g.path.len,λd hd=>(g.path.sz d hd).mono (by decide)⟩,⟨by have:=h.len;omega,λm hm=>?_,λm hm=>(h.pf m hm).1.mono (by decide)⟩⟩;obtain⟨q,hq⟩:=h.v m hm;obtain⟨i,_,hf⟩:=h.lb m hm;rw[hq,z7] at hf;rw[hq];exact zX (hf.mono (vV (Hj i) (by decide)))
def PI {N:Int}:∀ {ts:List (Int×Rat)} {p:Int},Cn ts->(∀ t,t∈ts->p<t.1/\0<=t.1/\t.1<N)->vT N p (tR ts)=true
 |[],_,_,_=>rfl| t::r,p,hc,h=>by obtain⟨h1,h2,h3⟩:=h t wZ;have ih:=PI (N:=N) (p:=t.1) hc.tail (λu hu=>⟨hc.lt u hu,(h u (wJ _ hu)).2⟩);show (decide (0<=t.1)&&decide (t.1<N)&&decide (p<t.1)&&decide ((zI t.2).q≠0)&&(zI t.2).ok&&vT N t.1 (tR r))=true;rw[ih,z7,rP,decide_eq_true h1,decide_eq_true h2,decide_eq_true h3,decide_eq_true hc.hd];rfl
theorem F.wf.valid {f:F}{n:Int}(h:f.wf n):(fA f).valid n=true:=by have h1:=PI (N:=n) (p:=-1) h.cn (λt ht=>⟨by have:=(h.v t ht).1;omega,(h.v t ht).1,(h.v t ht).2⟩);show (vT n (-1) (tR f.ts)&&(zI f.c).ok)=true;grind [rP]
def PG:∀ {l:List F} {k:Int},(∀ (i:Nat) (f:F),l[i]?=some f->f.wf (k+i))->vU k (l.map fA)=true
 |[],_,_=>rfl| f::r,k,h=>by have h0:=h 0 f rfl;rw[show k+((0:Nat):Int)=k by omega] at h0;have ih:=PG (l:=r) (k:=k+1) (λi g hg=>by have:=h (i+1) g (by grind);grind);show ((fA f).valid k&&vU (k+1) (r.map fA))=true;rw[h0.valid,ih];rfl
def Gy {l:List F}{n:Int}(h:∀ f,f∈l->f.wf n):(l.map fA).all (A.valid n)=true:=by rw[gH];intro a ha;obtain⟨f,hf,rfl⟩:=y9.1 ha;exact (h f hf).valid
def PJ:∀ {l:List (Rat×Rat)},(∀ b,b∈l->b.1<=b.2)->vB (l.map λb=>zI b.1) (l.map λb=>zI b.2)=true
 |[],_=>rfl| b::r,h=>by have ih:=PJ (l:=r) (λc hc=>h c (wJ _ hc));grind [wN,vB,rP,z7]
def lE {α:Type}{l:List α}{a:α}(h:a∈l):∃ i:Nat,l[i]?=some a:=Tm.1 h
structure FQry.ok (x:FQry):Prop where
 us:∀ (i:Nat) (f:F),x.g.us[i]?=some f->f.wf ((x.g.n+i:Nat):Int)
 os:∀ f,f∈x.g.os->f.wf ((x.g.n+x.g.us.length:Nat):Int)
 rows:∀ f,f∈x.r.rows->f.wf (x.g.n:Int)
 goal:x.goal.wf ((x.g.n+x.g.us.length:Nat):Int)
def nF (raw:List UInt8)(a:Nat):(fdY raw a).1.ok where
 us:=Gj raw a
 os:=λf hf=>by obtain⟨i,hi⟩:=lE hf;have:=QK (raw:=raw) (d:=0) hi;rw[Nat.mul_zero,t9] at this;have e:(fdY raw a).1.g.us.length=fdN raw 5 (na raw a):=aS raw 1 _ _ _;rw[e];exact this
 rows:=λf hf=>by obtain⟨i,hi⟩:=lE hf;have:=QK (raw:=raw) (d:=0) hi;rw[Nat.mul_zero,t9] at this;exact this
 goal:=AE raw _ _
theorem FQry.small.valid {x:FQry}(h:x.small)(g:x.ok):x.q.valid=true:=by
 have h1:=h.g.n1;have h2:=h.g.n2;have h3:=h.g.us;have h4:=h.g.o1;have h5:=h.g.o2;have h6:=h.r.bs;have h7:=h.r.rows;have hv:x.g.g.vars=((x.g.n+x.g.us.length:Nat):Int):=by show (x.g.n:Int)+((x.g.us.map fA).length:Int)=_;grind
 have hn:x.g.g.n=(x.g.n:Int):=rfl;have hg:x.g.g.valid=true:=by unfold Grp.valid;rw[hv];have a1:vU x.g.g.n x.g.g.us=true:=PG (l:=x.g.us) (k:=(x.g.n:Int)) (λi f hf=>by have:=g.us i f hf;grind);have a2:x.g.g.os.all (A.valid ((x.g.n+x.g.us.length:Nat):Int))=true:=Gy g.os;rw[a1,a2,decide_eq_true ⟨by omega,by omega,by show (x.g.us.map fA).length<=_;grind,by show 1<=(x.g.os.map fA).length;grind,by show (x.g.os.map fA).length<=_;grind⟩];rfl
 have hr:x.r.g.valid (x.g.n:Int)=true:=by unfold Reg.valid;have a1:vB x.r.g.lo x.r.g.hi=true:=PJ h.r.ord;have a2:x.r.g.rows.all (A.valid (x.g.n:Int))=true:=Gy g.rows;rw[a1,a2,decide_eq_true ⟨by omega,by omega,by show ((x.r.bs.map _).length:Int)=_;grind,by show ((x.r.bs.map _).length:Int)=_;grind,by show (x.r.rows.map fA).length<=_;grind⟩];rfl
 have hgo:(fA x.goal).valid x.g.g.vars=true:=by rw[hv];exact g.goal.valid
 show (x.g.g.valid&&x.r.g.valid x.g.g.n&&(fA x.goal).valid x.g.g.vars)=true;grind
def DV (raw:List UInt8):(fdS raw).q.valid=true:=(vD raw 0).valid (nF raw 0)
def AB (raw:List UInt8)(d:Dec)(hd:d∈(fdS raw).path):d.fits (fdS raw).q=true:=by
 have hu:(fdS raw).q.g.us.length=(fdY raw 0).1.g.us.length:=by show (List.map fA _).length=_;grind
 have hn:(fdS raw).q.g.n=((fdY raw 0).1.g.n:Int):=rfl;unfold Dec.fits;rcases (WL raw).1.d d hd with⟨h1,h2,h3,h4⟩|⟨h1,h2,h3,q,_,h4⟩;{grind};{rw[if_neg oM,if_pos h1,decide_eq_true ⟨h2,by omega⟩,h4,rP];rfl}
def fmD (s:Scp) (r:Row):F:=(s.fm r).getD F.zero
def SC (s:Scp) (v:Int):List (Row×Rat)->Rat
 |[]=>0| t::r=>t.2*co (fmD s t.1).ts v+SC s v r
def SK (s:Scp):List (Row×Rat)->Rat
 |[]=>0| t::r=>t.2*(fmD s t.1).c+SK s r
def AV (s:Scp) (l:List (Row×Rat)):Prop:=∀ t,t∈l->∃ f,s.fm t.1=some f
theorem SA (s:Scp)(v:Int)(r:Row)(q:Rat):∀ l,SC s v (plM r q l)=q*co (fmD s r).ts v+SC s v l
 |[]=>rfl| t::l=>by unfold plM;split;{simp only[SC,SA s v r q l];grind};{split;{grind [SC]};{simp only[SC]}}
theorem N9 {q:Rat}(h:yF q=0):q=0:=V8.1 h
def PC (s:Scp)(v:Int)(r:Row)(q:Rat)(l):SC s v (plMq l r q)=q*co (fmD s r).ts v+SC s v l:=by grind [plMq,N9,SA]
def SE {s:Scp}{r:Row}{q:Rat}(hr:∃ f,s.fm r=some f):∀ {l},AV s l->AV s (plM r q l)
 |[],_=>λt ht=>by grind [plM]| u::l,h=>by have hl:AV s l:=λt ht=>h t (wJ _ ht);unfold plM;split;{intro t ht;rcases yR.1 ht with rfl|ht;{exact h _ wZ};{exact SE hr hl t ht}};{split;{intro t ht;rcases yR.1 ht with rfl|ht;{exact hr};{exact hl t ht}};{intro t ht;rcases yR.1 ht with rfl|ht;{exact hr};{exact h t ht}}}
def PE {s:Scp}{r:Row}{q:Rat}(hr:∃ f,s.fm r=some f){l}(h:AV s l):AV s (plMq l r q):=by unfold plMq;split;{exact h};{exact SE hr h}
theorem Hg (s:Scp)(v:Int)(c:Rat):∀ b a,SC s v (kY a b c)=SC s v a+c*SC s v b
 |[],a=>by show SC s v a=_;grind [SC]| t::b,a=>by show SC s v (kY (plMq a t.1 (t.2*c)) b c)=_;rw[Hg s v c b,PC];grind [SC]
def Hk {s:Scp}{c:Rat}:∀ {b a},AV s b->AV s a->AV s (kY a b c)
 |[],a,_,h=>h| t::b,a,hb,h=>Hk (b:=b) (λu hu=>hb u (wJ _ hu)) (PE (hb t wZ) h)
def Hh {c:Rat}(hc:0<=c):∀ {b a},(∀ t,t∈b->0<=t.2)->Rs a->Rs (kY a b c)
 |[],a,_,h=>h| t::b,a,hb,h=>Hh hc (b:=b) (λu hu=>hb u (wJ _ hu)) (RV h (Kl (hb t wZ) hc))
theorem Zt (f:F)(c:Rat)(v:Int):co (f.scale c).ts v=co f.ts v*c:=by show co (mrg c [] f.ts) v=_;grind [s5,co]
theorem NC (f g:F)(v:Int):co (f.add g).ts v=co f.ts v+co g.ts v:=by show co (mrg 1 f.ts g.ts) v=_;grind [s5]
theorem eJ (f g:F)(v:Int):co (f.sub g).ts v=co f.ts v-co g.ts v:=by show co (mrg (-1) f.ts g.ts) v=_;grind [s5]
def GI {s:Scp}:∀ {l:List (Row×Rat)} {acc:F},AV s l->∃ f,sumL s acc (mR l)=some f/\(∀ v,co f.ts v=co acc.ts v+SC s v l)/\f.c=acc.c+SK s l/\(Cn acc.ts->(∀ r g,s.fm r=some g->Cn g.ts)->Cn f.ts)
 |[],acc,_=>⟨acc,rfl,λv=>by grind [SC],by grind [SK],λh _=>h⟩| t::l,acc,h=>by
  (obtain⟨g,hg⟩:=h t wZ;obtain⟨f,h1,h2,h3,h4⟩:=GI (s:=s) (l:=l) (acc:=acc.add (g.scale t.2)) (λu hu=>h u (wJ _ hu));have hd:fmD s t.1=g:=by grind [fmD]);refine⟨f,?_,λv=>?_,?_,λhc hcn=>h4 (hc.mrg (Cn.mrg Cn.nil (hcn _ _ hg))) hcn⟩
  {have e:mR (t::l)=⟨t.1,zI t.2⟩::mR l:=rfl;grind [sumL,z7]};{grind [NC,Zt,SC]};{have e:(acc.add (g.scale t.2)).c=acc.c+(0+g.c*t.2)*1:=rfl;grind [SK]}
def Ho {s:Scp}{l:List (Row×Rat)}(hr:Rs l)(ha:AV s l):∃ f,s.sum (mR l)=(0,f)/\(∀ v,co f.ts v=SC s v l)/\f.c=SK s l/\((∀ r g,s.fm r=some g->Cn g.ts)->Cn f.ts):=by obtain⟨f,h1,h2,h3,h4⟩:=GI (acc:=F.zero) ha;refine⟨f,?_,λv=>?_,?_,λh=>h4 Cn.nil h⟩;{grind [Scp.sum,Q7]};{rw[h2];have:co F.zero.ts v=0:=rfl;grind};{rw[h3];have:F.zero.c=0:=rfl;grind}
theorem Cn.nil_of {l:List (Int×Rat)}(h:Cn l)(h0:∀ v,co l v=0):l=[]:=Cn.ext h Cn.nil (λv=>by rw[h0 v];rfl)
def J5 {L:List Lem}{unit:Int}:∀ {r:List Lem} {n:Nat} {b:Nat×Nat},r=L.drop n->(b.1≠0->∃ m,L[b.1-1]?=some m/\m.u=unit/\m.up=false)/\(b.2≠0->∃ m,L[b.2-1]?=some m/\m.u=unit/\m.up=true) ->((gG L unit n r b).1≠0->∃ m,L[(gG L unit n r b).1-1]?=some m/\m.u=unit/\m.up=false)/\((gG L unit n r b).2≠0->∃ m,L[(gG L unit n r b).2-1]?=some m/\m.u=unit/\m.up=true)
 |[],n,b,_,hb=>hb| m::r,n,b,hr,hb=>by
  have hm:L[n]?=some m:=by
   (have:(L.drop n)[0]?=some m:=by grind);grind
  have hr':r=L.drop (n+1):=by
   (have:(L.drop n).drop 1=L.drop (n+1):=by simp_all);grind
  unfold gG;refine J5 hr' ?_;split
  ·rename_i hu;split;{grind}
   ·(rename_i hup;have hup':m.up=false:=by grind);split
    all_goals grind
  omega
def Xj (s:Scp)(unit:Int):((s.best unit).1≠0->∃ m,s.lems[(s.best unit).1-1]?=some m/\m.u=unit/\m.up=false)/\((s.best unit).2≠0->∃ m,s.lems[(s.best unit).2-1]?=some m/\m.u=unit/\m.up=true) :=
 J5 (by simp) ⟨λh=>absurd rfl h,λh=>absurd rfl h⟩
def pQ {s:Scp}{k:Nat}{unit:Int}{up:Bool}{m:Lem}(h0:k≠0)(hm:s.lems[k-1]?=some m)(hu:m.u=unit)(hp:m.up=up):s.lem k unit up=some (wP s.lems k):=by
 have hl:k-1<s.lems.length:=(wI.1 hm).1;have e:((k:Int)-1).toNat=k-1:=by omega
 rw[H9 (m:=m) oM oM (by grind),if_pos ⟨hu,hp⟩];grind [wP]
theorem Jo (s:Scp)(unit:Int)(up:Bool):s.lem 0 unit up=none:=H8 oM
def dR {s:Scp}(hv:s.q.valid=true){k lo hi:Int}{i:Nat}{p:F}(hk:5<=k)(hk2:k<14)(hp:s.q.g.us[i]?=some (fA p)):s.fm ⟨k,i,lo,hi⟩=unF s ⟨k,i,lo,hi⟩ p (F.var (s.q.g.n+i)) (s.lem lo i false) (s.lem hi i true):=by have hl:i<s.q.g.us.length:=(wI.1 hp).1;unfold Scp.fm;rw[if_neg (by grind),if_neg (by grind)];unfold Scp.fUn;rw[if_pos ⟨by grind,by grind⟩];grind [kQ]
def Tc {s:Scp}(hv:s.q.valid=true){i:Nat}{x:R}(hx:s.q.r.lo[i]?=some x):s.fm ⟨1,i,0,0⟩=some ((F.var i).sub (F.num x.q)):=by unfold Scp.fm;rw[if_neg (by grind),if_pos (by grind)];unfold Scp.fIn;rw[if_pos ⟨rfl,by grind⟩,if_pos rfl];grind
def Te {s:Scp}(hv:s.q.valid=true){i:Nat}{x:R}(hx:s.q.r.hi[i]?=some x):s.fm ⟨2,i,0,0⟩=some ((F.num x.q).sub (F.var i)):=by unfold Scp.fm;rw[if_neg (by grind),if_pos (by grind)];unfold Scp.fIn;rw[if_pos ⟨rfl,by grind⟩,if_neg (by grind),if_pos rfl];grind
def dlt (v w:Int):Rat:=if v=w then 1 else 0
theorem Yb (v w:Int):co (F.var v).ts w=dlt v w:=by show (if v=w then 1 else 0)+(0:Rat)=_;grind [dlt]
theorem Yc (q:Rat)(w:Int):co (F.num q).ts w=0:=rfl
theorem r7 {s:Scp}{r:Row}{f:F}(h:s.fm r=some f):fmD s r=f:=by grind [fmD]
def Ts {s:Scp}(hv:s.q.valid=true){i:Nat}{p:F}(hp:s.q.g.us[i]?=some (fA p)){lo hi:Nat}{l u:Rat}(hl:s.lem lo i false=some l)(hu:s.lem hi i true=some u):AV s (upM i lo hi l u)/\(∀ t,t∈upM i lo hi l u->0<=t.2)/\∀ w,SC s w (upM i lo hi l u)=- dlt (s.q.g.n+i) w:=by
 have f12:s.fm ⟨12,i,0,hi⟩=some ((F.num u).sub p):=by rw[dR hv (by decide) (by decide) hp,hu];rfl
 unfold upM;split
 ·(rename_i h;have f10:s.fm ⟨10,i,0,hi⟩=some ((F.var (s.q.g.n+i)).scale (-1)):=by rw[dR hv (by decide) (by decide) hp,hu];show (if m0 s ⟨10,i,0,hi⟩ u true=true then _ else none)=_;rw[if_pos (by grind [m0])]);refine⟨λt ht=>?_,λt ht=>?_,λw=>?_⟩
  all_goals grind [SC,r7,Zt,Yb]
 ·rename_i h1;split
  ·(rename_i h;have f8:s.fm ⟨8,i,lo,0⟩=some (p.sub (F.var (s.q.g.n+i))):=by rw[dR hv (by decide) (by decide) hp,hl];show (if onB s ⟨8,i,lo,0⟩ l true=true then _ else none)=_;rw[if_pos (by grind [onB])]);refine⟨λt ht=>?_,λt ht=>?_,λw=>?_⟩
   all_goals grind [SC,r7,eJ,Yb,Yc]
  ·(rename_i h2;have hu0:0<u:=by grind [rI]);have hl0:l<0:=by grind [oJ]
   have f13:s.fm ⟨13,i,lo,hi⟩=some (((p.sub (F.num l)).scale u).sub ((F.var (s.q.g.n+i)).scale (u-l))):=by rw[dR hv (by decide) (by decide) hp,hl,hu];show (if _/\_/\_/\_ then _ else none)=_;grind
   (have hpos:0<u-l:=by grind);have hinv:0<1/(u-l):=by rw[nS,Rat.one_mul];grind [Rat.inv_pos]
   (have hne:u-l≠0:=by grind);have hone:1/(u-l)*(u-l)=1:=by grind
   generalize 1/(u-l)=d at *;refine⟨λt ht=>?_,λt ht=>?_,λw=>?_⟩;{grind};{grind [Rat.le_of_lt,Rat.mul_pos]};grind [SC,r7,eJ,Zt,Yb,Yc]
def PB (q:Rat):0<=cC q:=by grind [cC]
def DI {s:Scp}{x:FQry}(hq:s.q=x.q)(hv:s.q.valid=true)(hx:x.small){v:Nat}(h:v<x.g.n+x.g.us.length):AV s (s.atLeastM v)/\(∀ t,t∈s.atLeastM v->0<=t.2)/\∀ w,SC s w (s.atLeastM v)=dlt v w:=by
 have hn:s.q.g.n=(x.g.n:Int):=by rw[hq];rfl
 unfold Scp.atLeastM;by_cases hlt:v<x.g.n
 ·rw[if_pos oM];obtain⟨y,hy⟩:∃ y,s.q.r.lo[v]?=some y:=zY (by rw[hq];show v<(x.r.bs.map _).length;rw[yN,hx.r.bs];exact hlt);have f1:=Tc hv hy;refine⟨λt ht=>?_,λt ht=>?_,λw=>?_⟩
  all_goals grind [SC,r7,eJ,Yb,Yc]
 ·(rw[if_neg oM];have e:(v:Int)-s.q.g.n=((v-x.g.n:Nat):Int):=by omega);have hp:s.q.g.us[v-x.g.n]?=some (fA x.g.us[v-x.g.n]):=by rw[hq];show (x.g.us.map fA)[v-x.g.n]?=_;grind
  (have f5:s.fm ⟨5,((v-x.g.n:Nat):Int),0,0⟩=some (F.var (s.q.g.n+(v-x.g.n:Nat))):=by rw[dR hv (by decide) (by decide) hp];rfl);rw[e];refine⟨λt ht=>?_,λt ht=>?_,λw=>?_⟩
  all_goals grind [SC,r7,Yb]
theorem BW {s:Scp}{x:FQry}(hq:s.q=x.q)(hv:s.q.valid=true)(hx:x.small){v:Nat}(h:v<x.g.n+x.g.us.length){more:List (Row×Rat)}(hm:s.atMostM v=some more):AV s more/\(∀ t,t∈more->0<=t.2)/\∀ w,SC s w more=- dlt v w:=by
 have hn:s.q.g.n=(x.g.n:Int):=by rw[hq];rfl
 unfold Scp.atMostM at hm;by_cases hlt:v<x.g.n
 ·rw[if_pos oM] at hm;cases hm;obtain⟨y,hy⟩:∃ y,s.q.r.hi[v]?=some y:=zY (by rw[hq];show v<(x.r.bs.map _).length;rw[yN,hx.r.bs];exact hlt);have f2:=Te hv hy;refine⟨λt ht=>?_,λt ht=>?_,λw=>?_⟩
  all_goals grind [SC,r7,eJ,Yb,Yc]
 ·(rw[if_neg oM] at hm;have e:(v:Int)-s.q.g.n=((v-x.g.n:Nat):Int):=by omega);have hp:s.q.g.us[v-x.g.n]?=some (fA x.g.us[v-x.g.n]):=by rw[hq];show (x.g.us.map fA)[v-x.g.n]?=_;grind
  rw[e] at hm;split at hm;{cases hm};{rename_i hb;cases hm;obtain⟨b1,b2⟩:=Xj s ((v-x.g.n:Nat):Int);have h1:(s.best ((v-x.g.n:Nat):Int)).1≠0:=λg=>hb (.inl g);have h2:(s.best ((v-x.g.n:Nat):Int)).2≠0:=λg=>hb (.inr g);obtain⟨m1,c1,c2,c3⟩:=b1 h1;obtain⟨m2,d1,d2,d3⟩:=b2 h2;have:=Ts hv hp (pQ h1 c1 c2 c3) (pQ h2 d1 d2 d3);grind}
def eX {s:Scp}{x:FQry}(hq:s.q=x.q)(hv:s.q.valid=true)(hx:x.small):∀ {ts:List (Int×Rat)} {l l':List (Row×Rat)},(∀ t,t∈ts->0<=t.1/\t.1<((x.g.n+x.g.us.length:Nat):Int)) ->s.aboveL ts l=some l'->AV s l->Rs l->AV s l'/\Rs l'/\∀ w,SC s w l'=SC s w l+co ts w
 |[],l,l',_,h,ha,hr=>by cases h;exact⟨ha,hr,λw=>by show _=_+(0:Rat);grind⟩
 |t::r,l,l',hb,h,ha,hr=>by
  (obtain⟨h1,h2⟩:=hb t wZ;obtain⟨v,hv1⟩:∃ v:Nat,t.1=v:=⟨t.1.toNat,by omega⟩;have hvl:v<x.g.n+x.g.us.length:=by omega);unfold Scp.aboveL at h
  (have hm:∀ {more:List (Row×Rat)},(if 0<yF t.2 then some (s.atLeastM t.1) else s.atMostM t.1)=some more->AV s more/\(∀ t,t∈more->0<=t.2)/\∀ w,cC t.2*SC s w more=(if t.1=w then t.2 else 0):=λ{more} g=>by rw[hv1] at g ⊢;split at g;{rename_i hs;cases g;obtain⟨g1,g2,g3⟩:=DI hq hv hx hvl;refine⟨g1,g2,λw=>?_⟩;have hp:=rI.1 hs;rw[g3];unfold cC dlt;grind};grind [BW,rI,cC,dlt]);split at h;{cases h};{rename_i more hmore;obtain⟨g1,g2,g3⟩:=hm hmore;obtain⟨k1,k2,k3⟩:=eX hq hv hx (λu hu=>hb u (wJ _ hu)) h (Hk g1 ha) (Hh (PB t.2) g2 hr);grind [Hg,co]}
def Fq {q:Qry}{path:List Dec}{L M:List Lem}{k u:Int}{up:Bool}{v:Rat}(h:(⟨q,path,L⟩:Scp).lem k u up=some v):(⟨q,path,L++M⟩:Scp).lem k u up=some v:=by unfold Scp.lem at h ⊢;dsimp only at h ⊢;split at h;{rename_i hk;split at h;{rename_i m hm;have hl:=(wI.1 hm).1;rw[if_pos ⟨hk.1,by rw[vE];omega⟩,aB hl,hm];exact h};grind};grind
def SI {q:Qry}{path:List Dec}{L M:List Lem}{r:Row}{p v f:F}(h:unF ⟨q,path,L⟩ r p v ((⟨q,path,L⟩:Scp).lem r.lo r.i false) ((⟨q,path,L⟩:Scp).lem r.hi r.i true)=some f):unF ⟨q,path,L++M⟩ r p v ((⟨q,path,L++M⟩:Scp).lem r.lo r.i false) ((⟨q,path,L++M⟩:Scp).lem r.hi r.i true)=some f:=by
 have el:=λv (h:(⟨q,path,L⟩:Scp).lem r.lo r.i false=some v)=>Fq (M:=M) h;have eu:=λv (h:(⟨q,path,L⟩:Scp).lem r.hi r.i true=some v)=>Fq (M:=M) h;have zl:r.lo=0->(⟨q,path,L++M⟩:Scp).lem r.lo r.i false=none:=λh=>by grind [Jo]
 have zu:r.hi=0->(⟨q,path,L++M⟩:Scp).lem r.hi r.i true=none:=λh=>by grind [Jo]
 have hd:∀ k i,(⟨q,path,L++M⟩:Scp).dcd k i=(⟨q,path,L⟩:Scp).dcd k i:=λ_ _=>rfl;have on:∀ l,onB ⟨q,path,L⟩ r (l.getD 0) l.isSome=true->(∀ v,l=some v->(⟨q,path,L++M⟩:Scp).lem r.lo r.i false=some v)->onB ⟨q,path,L++M⟩ r (((⟨q,path,L++M⟩:Scp).lem r.lo r.i false).getD 0) ((⟨q,path,L++M⟩:Scp).lem r.lo r.i false).isSome=true:=λl h g=>by
  unfold onB at h ⊢;rw[hd];cases l with
  |some v=>grind| none =>
   grind
 have off:∀ l,m0 ⟨q,path,L⟩ r (l.getD 0) l.isSome=true->(∀ v,l=some v->(⟨q,path,L++M⟩:Scp).lem r.hi r.i true=some v)->m0 ⟨q,path,L++M⟩ r (((⟨q,path,L++M⟩:Scp).lem r.hi r.i true).getD 0) ((⟨q,path,L++M⟩:Scp).lem r.hi r.i true).isSome=true:=λl h g=>by
  unfold m0 at h ⊢;rw[hd];cases l with
  |some v=>grind| none =>
   grind
 have two:∀ {c d:Prop} [Decidable c] [Decidable d] {x:F},(if c then some x else none)=some f->(c->d)->(if d then some x else none)=some f:=λh g=>by grind
 unfold unF at h ⊢;by_cases h5:r.k=5;{rw[if_pos h5] at h ⊢;exact h};rw[if_neg h5] at h ⊢;by_cases h6:r.k=6;{rw[if_pos h6] at h ⊢;exact h};rw[if_neg h6] at h ⊢;by_cases h7:r.k=7;{rw[if_pos h7] at h ⊢;grind};rw[if_neg h7] at h ⊢;by_cases h8:r.k=8;{rw[if_pos h8] at h ⊢;grind};rw[if_neg h8] at h ⊢;by_cases h9:r.k=9;{rw[if_pos h9] at h ⊢;grind};rw[if_neg h9] at h ⊢;by_cases h10:r.k=10;{rw[if_pos h10] at h ⊢;grind};rw[if_neg h10] at h ⊢;by_cases h11:r.k=11
 ·rw[if_pos h11] at h ⊢;cases hl:(⟨q,path,L⟩:Scp).lem r.lo r.i false with
  |none=>grind| some v=>grind
 rw[if_neg h11] at h ⊢;by_cases h12:r.k=12
 ·rw[if_pos h12] at h ⊢;cases hl:(⟨q,path,L⟩:Scp).lem r.hi r.i true with
  |none=>grind| some v=>grind
 rw[if_neg h12] at h ⊢;by_cases h13:r.k=13
 ·rw[if_pos h13] at h ⊢;cases hl:(⟨q,path,L⟩:Scp).lem r.lo r.i false with
  |none=>rw[hl] at h;simp at h| some v =>
   cases hu:(⟨q,path,L⟩:Scp).lem r.hi r.i true with
   |none=>rw[hl,hu] at h;simp at h| some w=>rw[hl,hu] at h;rw[el v hl,eu w hu];exact h
 rw[if_neg h13] at h ⊢;cases h
theorem Gf {q:Qry}{path:List Dec}{L M:List Lem}{r:Row}{f:F}(h:(⟨q,path,L⟩:Scp).fm r=some f):(⟨q,path,L++M⟩:Scp).fm r=some f:=by unfold Scp.fm at h ⊢;split at h;{cases h};{rename_i hn;rw[if_neg hn];split at h;{rename_i hk;rw[if_pos hk];exact h};{rename_i hk;rw[if_neg hk];unfold Scp.fUn at h ⊢;split at h;{rename_i hi;rw[if_pos hi];split at h;{rename_i p hp;dsimp only at hp ⊢;rw[hp];exact SI h};grind};grind}}
theorem Q5 (v:Int):Cn (F.var v).ts:=Cn.nil.cons (by simp) (by grind)
theorem Yd (q:Rat):Cn (F.num q).ts:=Cn.nil
theorem tX {f g:F}(hf:Cn f.ts)(hg:Cn g.ts):Cn (f.sub g).ts:=Cn.mrg hf hg
def A3 {f g:F}(hf:Cn f.ts)(hg:Cn g.ts):Cn (f.add g).ts:=Cn.mrg hf hg
theorem Zu {f:F}{c:Rat}(hf:Cn f.ts):Cn (f.scale c).ts:=Cn.mrg Cn.nil hf
def Ct {s:Scp}{r:Row}{p v f:F}{l u:Option Rat}(hp:Cn p.ts)(hv:Cn v.ts)(h:unF s r p v l u=some f):Cn f.ts:=by
 have two:∀ {c:Prop} [Decidable c] {x:F},(if c then some x else none)=some f->x=f:=λh=>by grind
 unfold unF at h;by_cases h5:r.k=5;{grind};rw[if_neg h5] at h;by_cases h6:r.k=6;{rw[if_pos h6] at h;grind [tX]};rw[if_neg h6] at h;by_cases h7:r.k=7;{rw[if_pos h7] at h;rw[<-two h];exact A3 hp Cn.nil};rw[if_neg h7] at h;by_cases h8:r.k=8;{rw[if_pos h8] at h;grind [tX]};rw[if_neg h8] at h;by_cases h9:r.k=9;{rw[if_pos h9] at h;rw[<-two h];exact Zu hp};rw[if_neg h9] at h;by_cases h10:r.k=10;{rw[if_pos h10] at h;rw[<-two h];exact Zu hv};rw[if_neg h10] at h;by_cases h11:r.k=11;{rw[if_pos h11] at h;grind [tX,Yd]};rw[if_neg h11] at h;by_cases h12:r.k=12;{rw[if_pos h12] at h;grind [tX,Yd]};rw[if_neg h12] at h;by_cases h13:r.k=13;{rw[if_pos h13] at h;grind [tX,Zu,Yd]};grind
theorem Ni {s:Scp}{x:FQry}(hq:s.q=x.q)(hx:x.ok){r:Row}{f:F}(h:s.fIn r=some f):Cn f.ts:=by unfold Scp.fIn at h;by_cases h0:r.plain=true/\0<=r.i;{rw[if_pos h0] at h;by_cases h1:r.k=1;{rw[if_pos h1] at h;obtain⟨y,_,rfl⟩:=bX.1 h;grind [tX,Q5,Yd]};rw[if_neg h1] at h;by_cases h2:r.k=2;{rw[if_pos h2] at h;obtain⟨y,_,rfl⟩:=bX.1 h;grind [tX,Yd,Q5]};rw[if_neg h2] at h;by_cases h3:r.k=3;{rw[if_pos h3] at h;obtain⟨y,hy,rfl⟩:=bX.1 h;have hm:=z8 hy;rw[hq] at hm;obtain⟨g,hg,rfl⟩:=y9.1 hm;rw[kQ];exact A3 (hx.rows g hg).cn Cn.nil};rw[if_neg h3] at h;by_cases h4:r.k=4;{rw[if_pos h4] at h;grind [tX,Q5,Yd,Zu]};grind};grind
def Ee {s:Scp}{x:FQry}(hq:s.q=x.q)(hx:x.ok)(r:Row)(f:F)(h:s.fm r=some f):Cn f.ts:=by unfold Scp.fm at h;split at h;{cases h};{split at h;{grind [Ni]};{unfold Scp.fUn at h;split at h;{split at h;{rename_i p hp;rw[hq] at hp;have hp':(x.g.us.map fA)[r.i.toNat]?=some p:=hp;rw[vH] at hp';obtain⟨g,hg,rfl⟩:=bX.1 hp';rw[kQ] at h;exact Ct (hx.us _ g hg).cn (Q5 _) h};grind};grind}}
theorem SB {q:Qry}{path:List Dec}{L M:List Lem}{v:Int}:∀ {l:List (Row×Rat)},AV ⟨q,path,L⟩ l->SC ⟨q,path,L++M⟩ v l=SC ⟨q,path,L⟩ v l
 |[],_=>rfl| t::r,h=>by obtain⟨f,hf⟩:=h t wZ;simp only[SC,r7 hf,r7 (Gf (M:=M) hf),SB (M:=M) (l:=r) (λu hu=>h u (wJ _ hu))]
theorem Sz {q:Qry}{path:List Dec}{L M:List Lem}:∀ {l:List (Row×Rat)},AV ⟨q,path,L⟩ l->SK ⟨q,path,L++M⟩ l=SK ⟨q,path,L⟩ l
 |[],_=>rfl| t::r,h=>by obtain⟨f,hf⟩:=h t wZ;simp only[SK,r7 hf,r7 (Gf (M:=M) hf),Sz (M:=M) (l:=r) (λu hu=>h u (wJ _ hu))]
def NW {q:Qry}{path:List Dec}{L M:List Lem}{l:List (Row×Rat)}(h:AV ⟨q,path,L⟩ l):AV ⟨q,path,L++M⟩ l:=λt ht=>by obtain⟨f,hf⟩:=h t ht;grind [Gf]
theorem F.wf.sub {f g:F}{n:Int}(hf:f.wf n)(hg:g.wf n):(f.sub g).wf n:=hf.merge hg
def Ui {s:Scp}{x:FQry}(hq:s.q=x.q)(hx:x.ok){l:List (Row×Rat)}{f:F}{N:Int}(hr:Rs l)(ha:AV s l)(hf:f.wf N)(hN:N<=9223372036854775807)(hc:∀ w,co f.ts w=SC s w l)(hk:SK s l<=f.c):s.proves (fA f) (mR l)=true:=by obtain⟨g,h1,h2,h3,h4⟩:=Ho hr ha;have hg:=h4 (Ee hq hx);have hts:(f.sub g).ts=[]:=(tX hf.cn hg).nil_of (λw=>by grind [eJ]);have hcc:(f.sub g).c=f.c+g.c * -1:=rfl;unfold Scp.proves;rw[kQ,h1,hts,(hf.mono hN).valid,decide_eq_true (p:=(0:Int)<=yF (f.sub g).c) (by grind [oJ])];rfl
def MY {x:FQry}(hs:x.small)(hx:x.ok){path:List Dec}{L:List Lem}{j:Nat}{p:F}(hp:x.g.us[j]?=some p){v:Rat×List (Row×Rat)}(h:(⟨x.q,path,L⟩:Scp).above p=some v):(⟨x.q,path,L⟩:Scp).lemB ⟨j,false,zI v.1,mR v.2⟩=true:=by
 have hv:=hs.valid hx;have hjl:=(wI.1 hp).1;have hn2:=hs.g.n2;have hu4:=hs.g.us;unfold Scp.above at h;obtain⟨l,hl,rfl⟩:=bX.1 h;have hwf:=hx.us j p hp;obtain⟨g1,g2,g3⟩:=eX (s:=⟨x.q,path,L⟩) rfl hv hs (λt ht=>by have:=hwf.v t ht;omega) hl (λt ht=>absurd ht (by simp)) Rs.nil;obtain⟨g,h1,h2,h3,h4⟩:=Ho g2 g1;have e0:x.q.g.us[((j:Int)).toNat]?=some (fA p):=by show (x.g.us.map fA)[((j:Int)).toNat]?=_;grind
 unfold Scp.lemB;dsimp only;rw[e0,hv,rP,decide_eq_true ⟨by omega,by grind⟩];dsimp only;rw[kQ];have ef:(⟨j,false,zI (p.sub ((⟨x.q,path,L⟩:Scp).sum (mR l)).2).c,mR l⟩:Lem).form p=p.sub (F.num (p.sub g).c):=by unfold Lem.form;rw[if_neg (by grind),h1,z7]
 rw[ef];rw[Ui (N:=((x.g.n+j:Nat):Int)) rfl hx g2 g1 (F.wf.sub hwf (F.wf.num _ _)) oM (λw=>?_) ?_];{rfl};{have e1:(p.sub (F.num (p.sub g).c)).c=p.c+(p.c+g.c * -1) * -1:=rfl;grind};grind [eJ,Yc,SC]
theorem PK {x:FQry}(hs:x.small)(hx:x.ok){path:List Dec}{L M:List Lem}{j:Nat}{p:F}(hp:x.g.us[j]?=some p){v:Rat×List (Row×Rat)}(h:(⟨x.q,path,L⟩:Scp).above (p.scale (-1))=some v):(⟨x.q,path,L++M⟩:Scp).lemB ⟨j,true,zI (-v.1),mR v.2⟩=true:=by
 have hv:=hs.valid hx;have hjl:=(wI.1 hp).1;have hn2:=hs.g.n2;have hu4:=hs.g.us;unfold Scp.above at h;obtain⟨l,hl,rfl⟩:=bX.1 h;have hwf:=hx.us j p hp;obtain⟨g1,g2,g3⟩:=eX (s:=⟨x.q,path,L⟩) rfl hv hs (λt ht=>by have:=(hwf.scale (c:=-1)).v t ht;omega) hl (λt ht=>absurd ht (by simp)) Rs.nil;obtain⟨g,h1,h2,h3,h4⟩:=Ho g2 g1;have e0:x.q.g.us[((j:Int)).toNat]?=some (fA p):=by show (x.g.us.map fA)[((j:Int)).toNat]?=_;grind
 unfold Scp.lemB;dsimp only;rw[e0,hv,rP,decide_eq_true ⟨by omega,by grind⟩];dsimp only;rw[kQ];have ef:(⟨j,true,zI (-((p.scale (-1)).sub ((⟨x.q,path,L⟩:Scp).sum (mR l)).2).c),mR l⟩:Lem).form p=(p.sub (F.num (-((p.scale (-1)).sub g).c))).scale (-1):=by unfold Lem.form;rw[if_pos rfl,h1,z7]
 rw[ef];rw[Ui (N:=((x.g.n+j:Nat):Int)) rfl hx g2 (NW g1) (F.wf.scale (F.wf.sub hwf (F.wf.num _ _))) oM (λw=>?_) ?_];{rfl};{have e1:((p.sub (F.num (-((p.scale (-1)).sub g).c))).scale (-1)).c=0+(p.c+(-((0+p.c * -1)+g.c * -1)) * -1) * -1:=rfl;grind [Sz]};grind [SB,Zt,eJ,Yc,SC]
def Cd (q:Qry) (path:List Dec) (L:List Lem):Prop:=∀ i m,L[i]?=some m->(⟨q,path,L.take i⟩:Scp).lemB m=true
theorem WC {q:Qry}{path:List Dec}{L:List Lem}{m:Lem}(h:Cd q path L)(hm:(⟨q,path,L⟩:Scp).lemB m=true):Cd q path (L++[m]):=λi n hn=>by by_cases hi:i<L.length;{rw[aB hi] at hn;rw[List.take_append_of_le_length oM];exact h i n hn};grind
def UO {x:FQry}(hs:x.small)(hx:x.ok){path:List Dec}:∀ {us:List A} {j:Nat} {L:List Lem},us=(x.g.us.drop j).map fA->Cd x.q path L->Cd x.q path (YV x.q path us j L)
 |[],j,L,_,h=>h| p::r,j,L,hu,h=>by
  have hlen:j<x.g.us.length:=by
   (have:(x.g.us.drop j).length≠0:=by grind);grind
  (rw[YN hlen] at hu;simp only[j3,List.cons.injEq] at hu;obtain⟨hp,hr⟩:=hu;have hg:x.g.us[j]?=some x.g.us[j]:=by grind);have e1:p.f=x.g.us[j]:=by rw[hp,kQ]
  unfold YV;rw[e1];refine UO hs hx hr ?_;unfold VO;cases hX:(⟨x.q,path,L⟩:Scp).above x.g.us[j] with
  |none =>
   cases hY:(⟨x.q,path,L⟩:Scp).above (x.g.us[j].scale (-1)) with
   |none=>grind| some w =>
    have:=PK (M:=[]) hs hx hg hY;grind [WC]
  |some v =>
   have h1:=WC h (MY hs hx hg hX);cases hY:(⟨x.q,path,L⟩:Scp).above (x.g.us[j].scale (-1)) with
   |none=>grind| some w =>
    grind [WC,PK]
def YE {s:Scp}:∀ {l:List Lem} {i:Nat},l=s.lems.drop i->Cd s.q s.path s.lems->jG s i l=true
 |[],_,_,_=>rfl| m::r,i,hl,h=>by
  have hm:s.lems[i]?=some m:=by
   (have:(s.lems.drop i)[0]?=some m:=by grind);grind
  have hr:r=s.lems.drop (i+1):=by
   (have:(s.lems.drop i).drop 1=s.lems.drop (i+1):=by simp_all);grind
  show ((s.pre i).lemB m&&jG s (i+1) r)=true;rw[YE hr h];have:=h i m hm;rw[show s.pre i=⟨s.q,s.path,s.lems.take i⟩ from rfl,this];rfl
def iQ (raw:List UInt8):(fdS raw).bounded.scopeB=true:=by
 have hg:Cd (fdS raw).bounded.q (fdS raw).bounded.path (fdS raw).bounded.lems :=
  UO (vD raw 0) (nF raw 0) (path:=(fdS raw).path) (us:=(fdY raw 0).1.g.us.map fA) (j:=0) (L:=[]) (by simp) (λi m h=>by simp at h)
 unfold Scp.scopeB;rw[YE (by simp) hg];have hv:(fdS raw).bounded.q.valid=true:=DV raw;rw[hv];have:((fdS raw).bounded.path.all λd=>true&&d.fits (fdS raw).bounded.q)=true:=by rw[gH];intro d hd;rw[yU];exact AB raw d hd
 grind
def Scp.onU (s:Scp) (j:Int):Bool:=s.dcd 1 j || (decide (0<(s.best j).1)&&decide (0<=yF (wP s.lems (s.best j).1)))
def Scp.offU (s:Scp) (j:Int):Bool:=s.dcd 2 j || (decide (0<(s.best j).2)&&decide (yF (wP s.lems (s.best j).2)<=0))
def Scp.rowsOn (s:Scp) (j:Int):List Row :=
 let b:Int:=if s.dcd 1 j=true then 0 else ((s.best j).1:Int)
 [⟨6,j,0,0⟩,⟨7,j,b,0⟩,⟨8,j,b,0⟩]
def Scp.rowsOff (s:Scp) (j:Int):List Row :=
 let b:Int:=if s.dcd 2 j=true then 0 else ((s.best j).2:Int)
 [⟨5,j,0,0⟩,⟨9,j,0,b⟩,⟨10,j,0,b⟩]
def Scp.rowsOpen (s:Scp) (j:Int):List Row :=
 [⟨5,j,0,0⟩,⟨6,j,0,0⟩]++(if 0<(s.best j).1 then [⟨11,j,((s.best j).1:Int),0⟩] else [])++(if 0<(s.best j).2 then [⟨12,j,0,((s.best j).2:Int)⟩] else []) ++
  (if 0<(s.best j).1/\0<(s.best j).2 then [⟨13,j,((s.best j).1:Int),((s.best j).2:Int)⟩] else [])
def Scp.rowsU (s:Scp) (j:Int):List Row :=
 (if s.onU j=true then s.rowsOn j else [])++(if s.offU j=true then s.rowsOff j else [])++(if s.onU j=true\/s.offU j=true then [] else s.rowsOpen j)
def Scp.all (s:Scp):List Row :=
 if s.q.valid=false then [] else
 ((List.range s.q.g.n.toNat).flatMap λi:Nat=>[(⟨1,(i:Int),0,0⟩:Row),⟨2,(i:Int),0,0⟩])++((List.range s.q.r.rows.length).map λi:Nat=>(⟨3,(i:Int),0,0⟩:Row)) ++
  (((List.range s.path.length).filter λi:Nat=>(s.fm ⟨4,(i:Int),0,0⟩).isSome).map λi:Nat=>(⟨4,(i:Int),0,0⟩:Row))++((List.range s.q.g.us.length).flatMap λj:Nat=>s.rowsU (j:Int))
end Go.Proofs.YtboocdbmnfjomaaGreat
