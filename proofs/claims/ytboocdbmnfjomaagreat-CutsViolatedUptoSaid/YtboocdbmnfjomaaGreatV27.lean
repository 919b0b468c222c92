/- A part of the proof: SpE, SpF, SpG, SpH, SpI, SpJ, SpK, SpL, SpM, SpN, SpO, SpP, SpQ, SpR, SpS, SpT, SpU, RtA. -/
import Derived.Test.YtboocdbmnfjomaaGreatV26
import Derived.Test.YtboocdbmnfjomaaGreatV22
import Derived.Test.YtboocdbmnfjomaaGreatV23
set_option linter.all false
namespace Go.Proofs.YtboocdbmnfjomaaGreat
open Go
set_option maxRecDepth 100000
set_option maxHeartbeats 2000000
def LB (K:Nat->Nat) (L:List Lem):Prop:=∀ m,m∈L->∃ i:Nat,m.u=i/\Fits (K i) m.v.q
theorem CO {K:Nat->Nat}{s:Scp}(hK:∀ i,1<=K i)(h:LB K s.lems)(k:Int)(i:Nat)(up:Bool):Fits (K i) ((s.lem k i up).getD 0):=by
 unfold Scp.lem;split
 ·split
  ·rename_i m hm;split
   ·(rename_i e;obtain⟨i',e',hf⟩:=h m (yE hm);have:i'=i:=by omega);simp_all
   {exact wJ (hK i)}
  {exact wJ (hK i)}
 grind [wJ]
theorem Dc {K:Nat->Nat}{s:Scp}(h:LB K s.lems){i k:Nat}(hk:k=(s.best i).1\/k=(s.best i).2)(h0:k≠0):Fits (K i) (wO s.lems k):=by obtain⟨m,hm,hu⟩:=aV hk h0;obtain⟨i',e',hf⟩:=h m (yE hm);grind [wO]
theorem Rk {s:Scp}{x:FQry}(hq:s.q=x.q)(hx:x.small){r:Row}(hr:r.k=1\/r.k=2){f:F}(h:s.fm r=some f):f.fl 6 3000:=by
 unfold Scp.fm at h;split at h;{cases h};rw[if_pos oM] at h;unfold Scp.fIn at h;split at h
 ·split at h
  ·cases hy:s.q.r.lo[r.i.toNat]? with
   |none=>grind| some y =>
    rw[hy] at h;cases h;have hm:=yE hy;rw[hq] at hm;obtain⟨b,hb,rfl⟩:=y9.1 hm;dsimp only;rw[yD];exact ((gR r.i).sub (j6 (hx.r.bf b hb).1)).mono oM oM
  ·split at h
   ·cases hy:s.q.r.hi[r.i.toNat]? with
    |none=>grind| some y =>
     rw[hy] at h;cases h;have hm:=yE hy;rw[hq] at hm;obtain⟨b,hb,rfl⟩:=y9.1 hm;dsimp only;rw[yD];exact ((j6 (hx.r.bf b hb).2).sub (gR r.i)).mono oM oM
   {omega}
 grind
theorem An {s:Scp}{r:Row}{p v:F}{l u:Option Rat}{K:Nat}{f:F}(hk:1<=K)(hp:p.fl 43 7)(hv:v.fl 1 1)(hl:Fits K (l.getD 0))(hu:Fits K (u.getD 0))(h:unF s r p v l u=some f):f.fl (4*K+60) 3000:=by
 unfold unF at h;generalize l.getD 0=lq at *;generalize u.getD 0=uq at *;have two:∀ {c:Prop} [Decidable c] {x:F},(if c then some x else none)=some f->x=f:=λh=>by grind
 split at h;{rw[<-two h];exact hv.mono oM oM};split at h;{rw[<-two h];exact (hv.sub hp).mono oM oM};split at h;{rw[<-two h];exact (hp.add zero_fl).mono oM oM};split at h;{rw[<-two h];exact (hp.sub hv).mono oM oM};split at h;{rw[<-two h];exact (hp.scale uZ).mono oM oM};split at h;{rw[<-two h];exact (hv.scale uZ).mono oM oM};split at h;{rw[<-two h];exact (hp.sub (j6 hl)).mono oM oM};split at h;{rw[<-two h];exact ((j6 hu).sub hp).mono oM oM};split at h;{rw[<-two h];exact (((hp.sub (j6 hl)).scale hu).sub (hv.scale (sQ hu hl))).mono oM oM};grind
theorem Bd {s:Scp}{x:FQry}{K:Nat->Nat}(hq:s.q=x.q)(hx:x.small)(hK:∀ i,1<=K i)(hL:LB K s.lems){r:Row}{i:Nat}(hr:5<=r.k)(hi:r.i=i){f:F}(h:s.fm r=some f):f.fl (4*K i+60) 3000:=by
 unfold Scp.fm at h;split at h;{cases h};rw[if_neg oM] at h;unfold Scp.fUn at h;split at h
 ·cases hy:s.q.g.us[r.i.toNat]? with
  |none=>grind| some p =>
   rw[hy] at h;have hm:=yE hy;rw[hq] at hm;obtain⟨b,hb,rfl⟩:=y9.1 hm;rw[hi] at h;dsimp only at h;rw[dO] at h;exact An (hK i) (hx.g.uf b hb) (gR _) (CO hK hL _ _ _) (CO hK hL _ _ _) h
 grind
def cst (K:Nat->Nat) (n v:Nat):Nat:=if v<n then 60 else 13*K (v-n)+230
theorem XF {s:Scp}{r:Row}{g:Nat}(hg:∀ f,s.fm r=some f->f.fl g 3000):Wt s [(r,1)] (g+6):=(Wt.cons fits_one hg .nil).to oM
theorem CP {s:Scp}{x:FQry}{K:Nat->Nat}(hq:s.q=x.q)(hx:x.small)(hK:∀ i,1<=K i)(hL:LB K s.lems)(v:Nat):∃ B,B+48*(s.atLeastM v).length<=cst K x.g.n v/\Wt s (s.atLeastM v) B:=by
 have hn:s.q.g.n=(x.g.n:Int):=by rw[hq];rfl
 unfold Scp.atLeastM cst;rw[hn];by_cases h:v<x.g.n;{rw[if_pos oM,if_pos h];exact⟨_,by simp,XF λf hf=>Rk hq hx (.inl rfl) hf⟩};{rw[if_neg oM,if_neg h];exact⟨_,by grind,XF λf hf=>Bd (i:=v-x.g.n) hq hx hK hL (by grind) (by grind) hf⟩}
theorem Mg {s:Scp}{x:FQry}{K:Nat->Nat}(hq:s.q=x.q)(hx:x.small)(hK:∀ i,1<=K i)(hL:LB K s.lems){i lo hi:Nat}{l u:Rat}(hl:Fits (K i) l)(hu:Fits (K i) u):∃ B,B+48*(upM i lo hi l u).length<=13*K i+230/\Wt s (upM i lo hi l u) B:=by
 have hg:∀ (k lo hi:Int),5<=k->∀ f,s.fm ⟨k,i,lo,hi⟩=some f->f.fl (4*K i+60) 3000:=λk lo hi hk f hf=>Bd hq hx hK hL hk rfl hf;have h1:=hK i;have hs:=Wf (sQ hu hl);have hd:Fits (2*K i+1) (1/(u-l)):=by grind
 unfold upM;split;{exact⟨_,by grind,XF (hg _ _ _ (by decide))⟩};{split;{exact⟨_,by grind,Wt.cons fits_one (hg _ _ _ (by decide)) (XF (hg _ _ _ (by decide)))⟩};{exact⟨_,by grind,Wt.cons ((wG hd hu).mono (k:=_) (m:=3*K i+2) oM) (hg _ _ _ (by decide)) (Wt.cons hd (hg _ _ _ (by decide)) .nil)⟩}}
theorem Gb {s:Scp}{x:FQry}{K:Nat->Nat}(hq:s.q=x.q)(hx:x.small)(hK:∀ i,1<=K i)(hL:LB K s.lems)(v:Nat){more:List (Row×Rat)}(h:s.atMostM v=some more):∃ B,B+48*more.length<=cst K x.g.n v/\Wt s more B:=by
 have hn:s.q.g.n=(x.g.n:Int):=by rw[hq];rfl
 unfold Scp.atMostM at h;unfold cst;rw[hn] at h;by_cases hv:v<x.g.n;{rw[if_pos oM] at h;rw[if_pos hv];cases h;exact⟨_,by simp,XF λf hf=>Rk hq hx (.inr rfl) hf⟩}
 ·(rw[if_neg oM] at h;rw[if_neg hv];have e:(v:Int)-x.g.n=((v-x.g.n:Nat):Int):=by omega);rw[e] at h
  split at h;{cases h};{rename_i hb;cases h;exact Mg hq hx hK hL (Dc hL (.inl rfl) (λg=>hb (.inl g))) (Dc hL (.inr rfl) (λg=>hb (.inr g)))}
def lJ (K:Nat->Nat) (n:Nat):Nat->Nat
 |0=>0| v+1=>lJ K n v+cst K n v
theorem ZP {K:Nat->Nat}{n a b:Nat}(h:a<=b):lJ K n a<=lJ K n b:=by
 induction b with
 |zero=>grind| succ b ih =>
  by_cases e:a=b+1;{grind};grind [lJ]
theorem Z5 {s:Scp}{x:FQry}{K:Nat->Nat}(hq:s.q=x.q)(hx:x.small)(hK:∀ i,1<=K i)(hL:LB K s.lems){hi:Nat}:∀ {ts:List (Int×Rat)} {l l':List (Row×Rat)} {N lo:Nat},Cn ts->(∀ t,t∈ts->(lo:Int)<=t.1/\t.1<hi)->(∀ t,t∈ts->Fits 46 t.2)->lo<=hi->Wt s l N->s.aboveL ts l=some l'->∃ M,M+lJ K x.g.n lo<=N+lJ K x.g.n hi/\Wt s l' M
 |[],l,l',N,lo,_,_,_,hlh,hw,h=>by cases h;exact⟨N,by have:=ZP (K:=K) (n:=x.g.n) hlh;omega,hw⟩
 |t::r,l,l',N,lo,hc,hv,hf,hlh,hw,h=>by
  (obtain⟨h1,h2⟩:=hv t vH;obtain⟨v,hv1⟩:∃ v:Nat,t.1=v:=⟨t.1.toNat,by omega⟩;unfold Scp.aboveL at h;have hm:∀ {more:List (Row×Rat)},(if 0<yG t.2 then some (s.atLeastM t.1) else s.atMostM t.1)=some more->∃ B,B+48*more.length<=cst K x.g.n v/\Wt s more B:=λ{more} g=>by rw[hv1] at g;split at g;{cases g;exact CP hq hx hK hL v};grind [Gb]);split at h;{cases h}
  ·(rename_i more hmore;obtain⟨B,b1,b2⟩:=hm hmore;obtain⟨M1,m1,m2⟩:=Wt.merge (lF (hf t vH)) b2 hw;have hlo:∀ u,u∈r->((v+1:Nat):Int)<=u.1/\u.1<hi:=λu hu=>by have g1:=hc.lt u hu;grind);obtain⟨M,k1,k2⟩:=Z5 hq hx hK hL (hi:=hi) (lo:=v+1) hc.tail hlo (λu hu=>hf u (w6 _ hu)) oM m2 h;refine⟨M,?_,k2⟩;have c1:=ZP (K:=K) (n:=x.g.n) (a:=lo) (b:=v) oM;have c2:lJ K x.g.n (v+1)=lJ K x.g.n v+cst K x.g.n v:=rfl;omega
theorem Am (j:Int)(lo hi:Nat)(l u:Rat):(upM j lo hi l u).length<=2:=by grind [upM]
theorem Kq {s:Scp}{v:Int}{more}(h:s.atMostM v=some more):more.length<=2:=by grind [Scp.atMostM,Am]
theorem Fw (s:Scp)(v:Int):(s.atLeastM v).length<=2:=by grind [Scp.atLeastM]
theorem eD {s:Scp}:∀ {ts:List (Int×Rat)} {l l':List (Row×Rat)},s.aboveL ts l=some l'->l'.length<=l.length+2*ts.length
 |[],l,l',h=>by cases h;simp
 |t::r,l,l',h=>by
  unfold Scp.aboveL at h;split at h;{cases h}
  ·(rename_i more hmore;have h1:more.length<=2:=by split at hmore;{cases hmore;exact Fw _ _};grind [Kq]);have h2:=VQ (aO t.2) more l;have h3:=eD h;grind
theorem Ak {s:Scp}{x:FQry}{K:Nat->Nat}(hq:s.q=x.q)(hx:x.small)(hK:∀ i,1<=K i)(hL:LB K s.lems){f:F}{hi:Nat}(hf:f.fl 46 7)(hw:f.wf hi){v:Rat×List (Row×Rat)}(h:s.above f=some v):Fits (49+lJ K x.g.n hi) v.1/\(∀ t,t∈v.2->Fits (lJ K x.g.n hi) t.2)/\v.2.length<=14:=by
 unfold Scp.above at h;cases hl:s.aboveL f.ts [] with
 |none=>grind| some l =>
  rw[hl] at h;cases h;obtain⟨M,h1,h2⟩:=Z5 hq hx hK hL (hi:=hi) (lo:=0) hw.cn (λt ht=>by have:=hw.v t ht;omega) hf.t (xO _) .nil hl;have h3:lJ K x.g.n 0=0:=rfl;have h4:=eD hl;have h5:=hf.len;refine⟨((hf.sub h2.sum).c).mono oM,λt ht=>(h2.mem t ht).mono oM,?_⟩;grind
def KK:Nat->Nat
 |0=>230| 1=>3450| 2=>48530| _=>679650
theorem QN (i:Nat):1<=KK i:=by unfold KK;grind
theorem Rz {n j:Nat}(h1:1<=n)(h2:n<=3)(h3:j<=3):49+lJ KK n (n+j)<=KK j:=by
 have:∀ n:Fin 4,∀ j:Fin 4,1<=n.val->49+lJ KK n.val (n.val+j.val)<=KK j.val:=by decide +kernel
 exact this ⟨n,by omega⟩ ⟨j,by omega⟩ h1
theorem Jy (i:Nat):KK i<=679650:=by unfold KK;grind
structure Lok (L:List Lem) (j:Nat):Prop where
 lb:LB KK L
 len:L.length<=2*j
 pf:∀ m,m∈L->Msz 679650 m.pf/\m.pf.length<=14
 v:∀ m,m∈L->∃ q,m.v=zK q
theorem Tb {l:List (Row×Rat)}{k:Nat}(h:∀ t,t∈l->Fits k t.2)(hl:l.length<=14):Msz k (mR l):=⟨by grind [qL],λm hm=>by obtain⟨t,ht,rfl⟩:=y9.1 hm;grind [z5]⟩
theorem Jg {x:FQry}(hx:x.small)(hwf:∀ (i:Nat) (f:F),x.g.us[i]?=some f->f.wf ((x.g.n+i:Nat):Int)){path:List Dec}{j:Nat}{f:F}(hfj:x.g.us[j]?=some f){L:List Lem}(h:Lok L j):Lok (L++Qt j ((⟨x.q,path,L⟩:Scp).above f) ((⟨x.q,path,L⟩:Scp).above (f.scale (-1)))) (j+1)/\(∀ v,(⟨x.q,path,L⟩:Scp).above (f.scale (-1))=some v->Fits (2^20) v.1):=by
 obtain⟨hlen,he⟩:=w8.1 hfj;have hj:j<=3:=by have:=hx.g.us;omega
 have hf:=hx.g.uf _ (yE hfj);have hw:=hwf j f hfj;have ok:=Rz hx.g.n1 hx.g.n2 hj;have kl:=Jy j;have key:∀ {f:F} {v:Rat×List (Row×Rat)},f.fl 46 7->f.wf ((x.g.n+j:Nat):Int)->(⟨x.q,path,L⟩:Scp).above f=some v->Fits (KK j) v.1/\Msz 679650 (mR v.2)/\(mR v.2).length<=14:=λhf hw hv=>by obtain⟨g1,g2,g3⟩:=Ak (s:=⟨x.q,path,L⟩) rfl hx QN h.lb hf hw hv;exact⟨g1.mono ok,Tb (λt ht=>(g2 t ht).mono oM) g3,by grind [qL]⟩
 have kx:=λv hv=>key (v:=v) (hf.mono (by decide) (by decide)) hw hv;have ky:=λv hv=>key (v:=v) ((hf.scale uZ).mono (by decide) (by decide)) hw.scale hv;refine⟨?_,λv hv=>(ky v hv).1.mono (vF kl (by decide))⟩;generalize (⟨x.q,path,L⟩:Scp).above f=X at *;generalize (⟨x.q,path,L⟩:Scp).above (f.scale (-1))=Y at *;have mem:∀ m,m∈Qt j X Y->m.u=(j:Int)/\Fits (KK j) m.v.q/\Msz 679650 m.pf/\m.pf.length<=14/\∃ q,m.v=zK q:=λm hm=>by
  unfold Qt at hm;rcases wZ.1 hm with hm|hm
  ·cases X with
   |none=>grind| some v =>
    (have:m=⟨j,false,zK v.1,mR v.2⟩:=by grind);obtain⟨g1,g2,g3⟩:=kx v rfl
    rw[this];exact⟨rfl,by grind [yD],g2,g3,_,rfl⟩
  ·cases Y with
   |none=>grind| some v =>
    (have:m=⟨j,true,zK (-v.1),mR v.2⟩:=by grind);obtain⟨g1,g2,g3⟩:=ky v rfl
    rw[this];exact⟨rfl,by show Fits _ (zK (-v.1)).q;rw[yD];exact bM g1,g2,g3,_,rfl⟩
 refine⟨λm hm=>?_,?_,λm hm=>?_,λm hm=>?_⟩;{rcases wZ.1 hm with hm|hm;{exact h.lb m hm};grind}
 ·(rw[alT53];have:(Qt j X Y).length<=2:=by unfold Qt;grind);have:=h.len
  omega
 {rcases wZ.1 hm with hm|hm;{exact h.pf m hm};grind};{rcases wZ.1 hm with hm|hm;{exact h.v m hm};grind}
theorem GH {x:FQry}(hx:x.small)(hwf:∀ (i:Nat) (f:F),x.g.us[i]?=some f->f.wf ((x.g.n+i:Nat):Int)){path:List Dec}:∀ {us:List A} {j:Nat} {L:List Lem},us=(x.g.us.drop j).map fA->Lok L j->Lok (Vj x.q path us j L) (j+us.length)
 |[],j,L,_,h=>h| p::r,j,L,hu,h=>by
  have hlen:j<x.g.us.length:=by
   (have:(x.g.us.drop j).length≠0:=by grind);grind
  (have hd:x.g.us.drop j=x.g.us[j]::x.g.us.drop (j+1):=(WW hlen);rw[hd] at hu;simp only[kK,List.cons.injEq] at hu;obtain⟨hp,hr⟩:=hu;have e1:p.f=x.g.us[j]:=by rw[hp,dO]);have hs:=(Jg hx hwf (path:=path) (j:=j) (f:=x.g.us[j]) (by grind) h).1
  unfold Vj;rw[e1];have:=GH hx hwf (path:=path) (us:=r) (j:=j+1) hr hs;grind
theorem Hm (raw:List UInt8)(a:Nat)(i:Nat)(f:F)(h:(fdG raw a).1.us[i]?=some f):f.wf (((fdG raw a).1.n+i:Nat):Int):=by have:=Qa (raw:=raw) (d:=1) h;rw[Zj] at this;exact this
theorem WK (raw:List UInt8):Lok (fdS raw).bounded.lems 4:=by
 have h:=j1 raw 0;have:=GH h (Hm raw 0) (path:=(fdS raw).path) (us:=(fdY raw 0).1.g.us.map fA) (j:=0) (L:=[]) (by simp) ⟨λm hm=>absurd hm (by simp),by simp,λm hm=>absurd hm (by simp),λm hm=>absurd hm (by simp)⟩;have hl:=h.g.us;exact⟨this.lb,by
  have:=this.len;rw[yH] at this;show (Vj _ _ _ _ _).length<=_;exact vF this oM,this.pf,this.v⟩
theorem Ht (raw:List UInt8):(fdS raw).bounded.sz (2^20):=by have h:=WK raw;have g:=U9 raw;refine⟨g.q.mono (by decide),⟨g.path.len,λd hd=>(g.path.sz d hd).mono (by decide)⟩,⟨by have:=h.len;omega,λm hm=>?_,λm hm=>(h.pf m hm).1.mono (by decide)⟩⟩;obtain⟨q,hq⟩:=h.v m hm;obtain⟨i,_,hf⟩:=h.lb m hm;rw[hq,yD] at hf;rw[hq];exact z5 (hf.mono (vF (Jy i) (by decide)))
theorem SY {N:Int}:∀ {ts:List (Int×Rat)} {p:Int},Cn ts->(∀ t,t∈ts->p<t.1/\0<=t.1/\t.1<N)->vT N p (tR ts)=true
 |[],_,_,_=>rfl| t::r,p,hc,h=>by obtain⟨h1,h2,h3⟩:=h t vH;have ih:=SY (N:=N) (p:=t.1) hc.tail (λu hu=>⟨hc.lt u hu,(h u (w6 _ hu)).2⟩);show (decide (0<=t.1)&&decide (t.1<N)&&decide (p<t.1)&&decide ((zK t.2).q≠0)&&(zK t.2).ok&&vT N t.1 (tR r))=true;rw[ih,yD,UP,decide_eq_true h1,decide_eq_true h2,decide_eq_true h3,decide_eq_true hc.hd];rfl
theorem F.wf.valid {f:F}{n:Int}(h:f.wf n):(fA f).valid n=true:=by have h1:=SY (N:=n) (p:=-1) h.cn (λt ht=>⟨by have:=(h.v t ht).1;omega,(h.v t ht).1,(h.v t ht).2⟩);show (vT n (-1) (tR f.ts)&&(zK f.c).ok)=true;grind [UP]
theorem SX:∀ {l:List F} {k:Int},(∀ (i:Nat) (f:F),l[i]?=some f->f.wf (k+i))->vU k (l.map fA)=true
 |[],_,_=>rfl| f::r,k,h=>by have h0:=h 0 f rfl;rw[show k+((0:Nat):Int)=k by omega] at h0;have ih:=SX (l:=r) (k:=k+1) (λi g hg=>by have:=h (i+1) g (by grind);grind);show ((fA f).valid k&&vU (k+1) (r.map fA))=true;rw[h0.valid,ih];rfl
theorem Hx {l:List F}{n:Int}(h:∀ f,f∈l->f.wf n):(l.map fA).all (A.valid n)=true:=by rw[bX];intro a ha;obtain⟨f,hf,rfl⟩:=y9.1 ha;exact (h f hf).valid
theorem SZ:∀ {l:List (Rat×Rat)},(∀ b,b∈l->b.1<=b.2)->vB (l.map λb=>zK b.1) (l.map λb=>zK b.2)=true
 |[],_=>rfl| b::r,h=>by have ih:=SZ (l:=r) (λc hc=>h c (w6 _ hc));grind [wX,vB,UP,yD]
theorem YG {α:Type}{l:List α}{a:α}(h:a∈l):∃ i:Nat,l[i]?=some a:=Ru.1 h
structure FQry.ok (x:FQry):Prop where
 us:∀ (i:Nat) (f:F),x.g.us[i]?=some f->f.wf ((x.g.n+i:Nat):Int)
 os:∀ f,f∈x.g.os->f.wf ((x.g.n+x.g.us.length:Nat):Int)
 rows:∀ f,f∈x.r.rows->f.wf (x.g.n:Int)
 goal:x.goal.wf ((x.g.n+x.g.us.length:Nat):Int)
theorem Bl (raw:List UInt8)(a:Nat):(fdY raw a).1.ok where
 us:=Hm raw a
 os:=λf hf=>by obtain⟨i,hi⟩:=YG hf;have:=Qa (raw:=raw) (d:=0) hi;rw[Nat.mul_zero,tM] at this;have e:(fdY raw a).1.g.us.length=fdN raw 5 (na raw a):=aL raw 1 _ _ _;rw[e];exact this
 rows:=λf hf=>by obtain⟨i,hi⟩:=YG hf;have:=Qa (raw:=raw) (d:=0) hi;rw[Nat.mul_zero,tM] at this;exact this
 goal:=Bp raw _ _
theorem FQry.small.valid {x:FQry}(h:x.small)(g:x.ok):x.q.valid=true:=by
 have h1:=h.g.n1;have h2:=h.g.n2;have h3:=h.g.us;have h4:=h.g.o1;have h5:=h.g.o2;have h6:=h.r.bs;have h7:=h.r.rows;have hv:x.g.g.vars=((x.g.n+x.g.us.length:Nat):Int):=by show (x.g.n:Int)+((x.g.us.map fA).length:Int)=_;grind
 have hn:x.g.g.n=(x.g.n:Int):=rfl;have hg:x.g.g.valid=true:=by unfold Grp.valid;rw[hv];have a1:vU x.g.g.n x.g.g.us=true:=SX (l:=x.g.us) (k:=(x.g.n:Int)) (λi f hf=>by have:=g.us i f hf;grind);have a2:x.g.g.os.all (A.valid ((x.g.n+x.g.us.length:Nat):Int))=true:=Hx g.os;rw[a1,a2,decide_eq_true ⟨by omega,by omega,by show (x.g.us.map fA).length<=_;grind,by show 1<=(x.g.os.map fA).length;grind,by show (x.g.os.map fA).length<=_;grind⟩];rfl
 have hr:x.r.g.valid (x.g.n:Int)=true:=by unfold Reg.valid;have a1:vB x.r.g.lo x.r.g.hi=true:=SZ h.r.ord;have a2:x.r.g.rows.all (A.valid (x.g.n:Int))=true:=Hx g.rows;rw[a1,a2,decide_eq_true ⟨by omega,by omega,by show ((x.r.bs.map _).length:Int)=_;grind,by show ((x.r.bs.map _).length:Int)=_;grind,by show (x.r.rows.map fA).length<=_;grind⟩];rfl
 have hgo:(fA x.goal).valid x.g.g.vars=true:=by rw[hv];exact g.goal.valid
 show (x.g.g.valid&&x.r.g.valid x.g.g.n&&(fA x.goal).valid x.g.g.vars)=true;grind

theorem Jh {L:List Lem}{unit:Int}:∀ {r:List Lem} {n:Nat} {b:Nat×Nat},r=L.drop n->(b.1≠0->∃ m,L[b.1-1]?=some m/\m.u=unit/\m.up=false)/\(b.2≠0->∃ m,L[b.2-1]?=some m/\m.u=unit/\m.up=true) ->((j5 L unit n r b).1≠0->∃ m,L[(j5 L unit n r b).1-1]?=some m/\m.u=unit/\m.up=false)/\((j5 L unit n r b).2≠0->∃ m,L[(j5 L unit n r b).2-1]?=some m/\m.u=unit/\m.up=true)
 |[],n,b,_,hb=>hb| m::r,n,b,hr,hb=>by
  have hm:L[n]?=some m:=by
   (have:(L.drop n)[0]?=some m:=by grind);grind
  have hr':r=L.drop (n+1):=by
   (have:(L.drop n).drop 1=L.drop (n+1):=by simp_all);grind
  unfold j5;refine Jh hr' ?_;split
  ·rename_i hu;split;{grind}
   ·(rename_i hup;have hup':m.up=false:=by grind);split
    all_goals grind
  omega
theorem Qu (s:Scp)(unit:Int):((s.best unit).1≠0->∃ m,s.lems[(s.best unit).1-1]?=some m/\m.u=unit/\m.up=false)/\((s.best unit).2≠0->∃ m,s.lems[(s.best unit).2-1]?=some m/\m.u=unit/\m.up=true) :=
 Jh (by simp) ⟨λh=>absurd rfl h,λh=>absurd rfl h⟩
theorem oQ {s:Scp}{k:Nat}{unit:Int}{up:Bool}{m:Lem}(h0:k≠0)(hm:s.lems[k-1]?=some m)(hu:m.u=unit)(hp:m.up=up):s.lem k unit up=some (wO s.lems k):=by
 have hl:k-1<s.lems.length:=(w8.1 hm).1;have e:((k:Int)-1).toNat=k-1:=by omega
 rw[Hf (m:=m) oM oM (by grind),if_pos ⟨hu,hp⟩];grind [wO]
theorem nX {s:Scp}(hv:s.q.valid=true){k lo hi:Int}{i:Nat}{p:F}(hk:5<=k)(hk2:k<14)(hp:s.q.g.us[i]?=some (fA p)):s.fm ⟨k,i,lo,hi⟩=unF s ⟨k,i,lo,hi⟩ p (F.var (s.q.g.n+i)) (s.lem lo i false) (s.lem hi i true):=by have hl:i<s.q.g.us.length:=(w8.1 hp).1;unfold Scp.fm;rw[if_neg (by grind),if_neg (by grind)];unfold Scp.fUn;rw[if_pos ⟨by grind,by grind⟩];grind [dO]
theorem No {s:Scp}(hv:s.q.valid=true){i:Nat}{x:R}(hx:s.q.r.lo[i]?=some x):s.fm ⟨1,i,0,0⟩=some ((F.var i).sub (F.num x.q)):=by unfold Scp.fm;rw[if_neg (by grind),if_pos (by grind)];unfold Scp.fIn;rw[if_pos ⟨rfl,by grind⟩,if_pos rfl];grind
theorem Np {s:Scp}(hv:s.q.valid=true){i:Nat}{x:R}(hx:s.q.r.hi[i]?=some x):s.fm ⟨2,i,0,0⟩=some ((F.num x.q).sub (F.var i)):=by unfold Scp.fm;rw[if_neg (by grind),if_pos (by grind)];unfold Scp.fIn;rw[if_pos ⟨rfl,by grind⟩,if_neg (by grind),if_pos rfl];grind


theorem Hr (q:Rat):Cn (F.num q).ts:=Cn.nil
theorem WD {f g:F}(hf:Cn f.ts)(hg:Cn g.ts):Cn (f.sub g).ts:=Cn.mrg hf hg
theorem TO {f g:F}(hf:Cn f.ts)(hg:Cn g.ts):Cn (f.add g).ts:=Cn.mrg hf hg
theorem WE {f:F}{c:Rat}(hf:Cn f.ts):Cn (f.scale c).ts:=Cn.mrg Cn.nil hf
theorem RE {s:Scp}{r:Row}{p v f:F}{l u:Option Rat}(hp:Cn p.ts)(hv:Cn v.ts)(h:unF s r p v l u=some f):Cn f.ts:=by
 have two:∀ {c:Prop} [Decidable c] {x:F},(if c then some x else none)=some f->x=f:=λh=>by grind
 unfold unF at h;by_cases h5:r.k=5;{grind};rw[if_neg h5] at h;by_cases h6:r.k=6;{rw[if_pos h6] at h;grind [WD]};rw[if_neg h6] at h;by_cases h7:r.k=7;{rw[if_pos h7] at h;rw[<-two h];exact TO hp Cn.nil};rw[if_neg h7] at h;by_cases h8:r.k=8;{rw[if_pos h8] at h;grind [WD]};rw[if_neg h8] at h;by_cases h9:r.k=9;{rw[if_pos h9] at h;rw[<-two h];exact WE hp};rw[if_neg h9] at h;by_cases h10:r.k=10;{rw[if_pos h10] at h;rw[<-two h];exact WE hv};rw[if_neg h10] at h;by_cases h11:r.k=11;{rw[if_pos h11] at h;grind [WD,Hr]};rw[if_neg h11] at h;by_cases h12:r.k=12;{rw[if_pos h12] at h;grind [WD,Hr]};rw[if_neg h12] at h;by_cases h13:r.k=13;{rw[if_pos h13] at h;grind [WD,WE,Hr]};grind
theorem F.wf.sub {f g:F}{n:Int}(hf:f.wf n)(hg:g.wf n):(f.sub g).wf n:=hf.merge hg
def Scp.onU (s:Scp) (j:Int):Bool:=s.dcd 1 j || (decide (0<(s.best j).1)&&decide (0<=yG (wO s.lems (s.best j).1)))
def Scp.offU (s:Scp) (j:Int):Bool:=s.dcd 2 j || (decide (0<(s.best j).2)&&decide (yG (wO s.lems (s.best j).2)<=0))
def Scp.rowsOn (s:Scp) (j:Int):List Row :=
 let b:Int:=if s.dcd 1 j=true then 0 else ((s.best j).1:Int)
 [⟨6,j,0,0⟩,⟨7,j,b,0⟩,⟨8,j,b,0⟩]
def Scp.rowsOff (s:Scp) (j:Int):List Row :=
 let b:Int:=if s.dcd 2 j=true then 0 else ((s.best j).2:Int)
 [⟨5,j,0,0⟩,⟨9,j,0,b⟩,⟨10,j,0,b⟩]
def Scp.rowsOpen (s:Scp) (j:Int):List Row :=
 [⟨5,j,0,0⟩,⟨6,j,0,0⟩]++(if 0<(s.best j).1 then [⟨11,j,((s.best j).1:Int),0⟩] else [])++(if 0<(s.best j).2 then [⟨12,j,0,((s.best j).2:Int)⟩] else []) ++
  (if 0<(s.best j).1/\0<(s.best j).2 then [⟨13,j,((s.best j).1:Int),((s.best j).2:Int)⟩] else [])
def Scp.rowsU (s:Scp) (j:Int):List Row :=
 (if s.onU j=true then s.rowsOn j else [])++(if s.offU j=true then s.rowsOff j else [])++(if s.onU j=true\/s.offU j=true then [] else s.rowsOpen j)
def Scp.all (s:Scp):List Row :=
 if s.q.valid=false then [] else
 ((List.range s.q.g.n.toNat).flatMap λi:Nat=>[(⟨1,(i:Int),0,0⟩:Row),⟨2,(i:Int),0,0⟩])++((List.range s.q.r.rows.length).map λi:Nat=>(⟨3,(i:Int),0,0⟩:Row)) ++
  (((List.range s.path.length).filter λi:Nat=>(s.fm ⟨4,(i:Int),0,0⟩).isSome).map λi:Nat=>(⟨4,(i:Int),0,0⟩:Row))++((List.range s.q.g.us.length).flatMap λj:Nat=>s.rowsU (j:Int))
theorem Sq {s:Scp}{j k:Int}{b:Int}(h:s.onU j=true)(hb:b=if s.dcd 1 j=true then 0 else ((s.best j).1:Int)):onB s ⟨k,j,b,0⟩ ((s.lem b j false).getD 0) (s.lem b j false).isSome=true:=by
 unfold onB;by_cases hd:s.dcd 1 j=true;{rw[if_pos hd] at hb;rw[hb];dsimp only;rw[hd];simp}
 ·(rw[if_neg hd] at hb;unfold Scp.onU at h;have hd':s.dcd 1 j=false:=by simpa using hd);rw[hd',rL,xA,decide_eq_true_eq,decide_eq_true_eq] at h
  obtain⟨h1,h2⟩:=h;obtain⟨m,c1,c2,c3⟩:=(Qu s j).1 oM;rw[hb,oQ oM c1 c2 c3];simp[h2]
theorem CB {s:Scp}{j k:Int}{b:Int}(h:s.offU j=true)(hb:b=if s.dcd 2 j=true then 0 else ((s.best j).2:Int)):Va s ⟨k,j,0,b⟩ ((s.lem b j true).getD 0) (s.lem b j true).isSome=true:=by
 unfold Va;by_cases hd:s.dcd 2 j=true;{rw[if_pos hd] at hb;rw[hb];dsimp only;rw[hd];simp}
 ·(rw[if_neg hd] at hb;unfold Scp.offU at h;have hd':s.dcd 2 j=false:=by simpa using hd);rw[hd',rL,xA,decide_eq_true_eq,decide_eq_true_eq] at h
  obtain⟨h1,h2⟩:=h;obtain⟨m,c1,c2,c3⟩:=(Qu s j).2 oM;rw[hb,oQ oM c1 c2 c3];simp[h2]
theorem M5 {s:Scp}(hv:s.q.valid=true){i:Nat}{p:F}(hp:s.q.g.us[i]?=some (fA p))(h:s.onU i=true):∀ r,r∈s.rowsOn i->∃ f,s.fm r=some f:=λr hr=>by
 unfold Scp.rowsOn at hr;obtain⟨b,hb⟩:∃ b:Int,b=if s.dcd 1 i=true then 0 else ((s.best i).1:Int):=⟨_,rfl⟩
 rw[<-hb] at hr;have hon:=λk=>Sq (k:=k) h hb;have:r=⟨6,i,0,0⟩\/r=⟨7,i,b,0⟩\/r=⟨8,i,b,0⟩:=by simpa using hr
 rcases this with h|h|h <;> rw[h,nX hv (by decide) (by decide) hp]
 {exact⟨_,rfl⟩}
 ·exact⟨p.add F.zero,by
   show (if onB s ⟨7,i,b,0⟩ _ _=true then _ else none)=_;rw[if_pos (hon 7)]⟩
 ·exact⟨p.sub (F.var (s.q.g.n+i)),by
   show (if onB s ⟨8,i,b,0⟩ _ _=true then _ else none)=_;rw[if_pos (hon 8)]⟩
theorem Ta {s:Scp}(hv:s.q.valid=true){i:Nat}{p:F}(hp:s.q.g.us[i]?=some (fA p))(h:s.offU i=true):∀ r,r∈s.rowsOff i->∃ f,s.fm r=some f:=λr hr=>by
 unfold Scp.rowsOff at hr;obtain⟨b,hb⟩:∃ b:Int,b=if s.dcd 2 i=true then 0 else ((s.best i).2:Int):=⟨_,rfl⟩
 rw[<-hb] at hr;have hoff:=λk=>CB (k:=k) h hb;have:r=⟨5,i,0,0⟩\/r=⟨9,i,0,b⟩\/r=⟨10,i,0,b⟩:=by simpa using hr
 rcases this with h|h|h <;> rw[h,nX hv (by decide) (by decide) hp]
 {exact⟨_,rfl⟩}
 ·exact⟨p.scale (-1),by
   show (if Va s ⟨9,i,0,b⟩ _ _=true then _ else none)=_;rw[if_pos (hoff 9)]⟩
 ·exact⟨(F.var (s.q.g.n+i)).scale (-1),by
   show (if Va s ⟨10,i,0,b⟩ _ _=true then _ else none)=_;rw[if_pos (hoff 10)]⟩
theorem So {s:Scp}(hv:s.q.valid=true){i:Nat}{p:F}(hp:s.q.g.us[i]?=some (fA p))(h1:¬s.onU i=true)(h2:¬s.offU i=true):∀ r,r∈s.rowsOpen i->∃ f,s.fm r=some f:=λr hr=>by
 obtain⟨b1,b2⟩:=Qu s i;have lo:0<(s.best i).1->s.lem ((s.best i).1:Int) i false=some (wO s.lems (s.best i).1)/\yG (wO s.lems (s.best i).1)<0:=λh=>by obtain⟨m,c1,c2,c3⟩:=b1 oM;refine⟨oQ oM c1 c2 c3,?_⟩;by_cases g:yG (wO s.lems (s.best i).1)<0;{exact g};{exact absurd (by unfold Scp.onU;rw[decide_eq_true h,decide_eq_true (p:=0<=yG (wO s.lems (s.best i).1)) oM];simp) h1}
 have hi:0<(s.best i).2->s.lem ((s.best i).2:Int) i true=some (wO s.lems (s.best i).2)/\0<yG (wO s.lems (s.best i).2):=λh=>by obtain⟨m,c1,c2,c3⟩:=b2 oM;refine⟨oQ oM c1 c2 c3,?_⟩;by_cases g:0<yG (wO s.lems (s.best i).2);{exact g};{exact absurd (by unfold Scp.offU;rw[decide_eq_true h,decide_eq_true (p:=yG (wO s.lems (s.best i).2)<=0) oM];simp) h2}
 unfold Scp.rowsOpen at hr;rcases wZ.1 hr with hr|hr
 ·rcases wZ.1 hr with hr|hr
  ·rcases wZ.1 hr with hr|hr
   ·(have:r=⟨5,i,0,0⟩\/r=⟨6,i,0,0⟩:=by simpa using hr);rcases this with h|h <;> rw[h,nX hv (by decide) (by decide) hp]
    {exact⟨_,rfl⟩};{exact⟨_,rfl⟩}
   ·split at hr
    ·(rename_i h;have:r=⟨11,i,((s.best i).1:Int),0⟩:=by simpa using hr);rw[this,nX hv (by decide) (by decide) hp,(lo h).1]
     exact⟨_,rfl⟩
    {exact absurd hr (by simp)}
  ·split at hr
   ·(rename_i h;have:r=⟨12,i,0,((s.best i).2:Int)⟩:=by simpa using hr);rw[this,nX hv (by decide) (by decide) hp,(hi h).1]
    exact⟨_,rfl⟩
   {exact absurd hr (by simp)}
 ·split at hr
  ·(rename_i h;have:r=⟨13,i,((s.best i).1:Int),((s.best i).2:Int)⟩:=by simpa using hr);rw[this,nX hv (by decide) (by decide) hp,(lo h.1).1,(hi h.2).1]
   refine⟨((p.sub (F.num (wO s.lems (s.best i).1))).scale (wO s.lems (s.best i).2)).sub ((F.var (s.q.g.n+i)).scale (wO s.lems (s.best i).2-wO s.lems (s.best i).1)),?_⟩;show (if _/\_/\_/\_ then _ else none)=_;rw[if_pos ⟨rfl,rfl,(lo h.1).2,(hi h.2).2⟩];rfl
  {exact absurd hr (by simp)}
theorem SD {s:Scp}(hv:s.q.valid=true){i:Nat}{x:A}(hx:s.q.r.rows[i]?=some x):∃ f,s.fm ⟨3,i,0,0⟩=some f:=by
 unfold Scp.fm;rw[if_neg (by rw[hv];simp),if_pos (by show (3:Int)<=4;decide)];unfold Scp.fIn;rw[if_pos ⟨rfl,by show (0:Int)<=i;omega⟩,if_neg (by show ¬(3:Int)=1;decide),if_neg (by show ¬(3:Int)=2;decide),if_pos rfl];have e:((⟨3,i,0,0⟩:Row).i).toNat=i:=by show ((i:Int)).toNat=i;omega
 rw[e,hx];exact⟨_,rfl⟩
theorem B6 {s:Scp}{x:FQry}(hq:s.q=x.q)(hs:x.small)(hx:x.ok):∀ r,r∈s.all->∃ f,s.fm r=some f:=λr hr=>by
 have hv:s.q.valid=true:=by rw[hq];exact hs.valid hx
 have hn:s.q.g.n=(x.g.n:Int):=by rw[hq];rfl
 unfold Scp.all at hr;rw[if_neg (by rw[hv];decide)] at hr;rcases wZ.1 hr with hr|hr
 ·rcases wZ.1 hr with hr|hr
  ·rcases wZ.1 hr with hr|hr
   ·(obtain⟨i,hi,h⟩:=W0.1 hr;have hi':i<x.g.n:=by have:=sZ.1 hi;omega);have:r=⟨1,i,0,0⟩\/r=⟨2,i,0,0⟩:=by simpa using h
    rcases this with h|h;{obtain⟨y,hy⟩:∃ y,s.q.r.lo[i]?=some y:=yB (by rw[hq];show i<(x.r.bs.map _).length;rw[yH,hs.r.bs];exact hi');rw[h];exact⟨_,No hv hy⟩};{obtain⟨y,hy⟩:∃ y,s.q.r.hi[i]?=some y:=yB (by rw[hq];show i<(x.r.bs.map _).length;rw[yH,hs.r.bs];exact hi');rw[h];exact⟨_,Np hv hy⟩}
   {obtain⟨i,hi,rfl⟩:=y9.1 hr;obtain⟨y,hy⟩:∃ y,s.q.r.rows[i]?=some y:=yB (sZ.1 hi);exact SD hv hy}
  {obtain⟨i,hi,rfl⟩:=y9.1 hr;have h:=(List.mem_filter.1 hi).2;exact Jv.1 h}
 ·obtain⟨j,hj,h⟩:=W0.1 hr;have hj':j<x.g.us.length:=by
   (have:=sZ.1 hj;rw[hq] at this;have e:x.q.g.us.length=x.g.us.length:=by show (List.map fA _).length=_;rw[yH]);omega
  (have hp:s.q.g.us[j]?=some (fA x.g.us[j]):=by rw[hq];show (x.g.us.map fA)[j]?=_;rw[jJ];simp[hj']);unfold Scp.rowsU at h;rcases wZ.1 h with h|h
  {rcases wZ.1 h with h|h;{split at h;{rename_i ho;exact M5 hv hp ho r h};{exact absurd h (by simp)}};{split at h;{rename_i ho;exact Ta hv hp ho r h};{exact absurd h (by simp)}}};{split at h;{exact absurd h (by simp)};{rename_i ho;exact So hv hp (λg=>ho (.inl g)) (λg=>ho (.inr g)) r h}}
theorem RD {s:Scp}{r:Row}{p v f:F}{l u:Option Rat}{N:Int}(hp:p.wf N)(hv:v.wf N)(h:unF s r p v l u=some f):f.wf N:=by
 have two:∀ {c:Prop} [Decidable c] {x:F},(if c then some x else none)=some f->x=f:=λh=>by split at h;{exact qP h};{cases h}
 have num:=λq=>F.wf.num q N;unfold unF at h;by_cases h5:r.k=5;{rw[if_pos h5] at h;rw[<-two h];exact hv};rw[if_neg h5] at h;by_cases h6:r.k=6;{rw[if_pos h6] at h;rw[<-two h];exact hv.sub hp};rw[if_neg h6] at h;by_cases h7:r.k=7;{rw[if_pos h7] at h;rw[<-two h];exact hp.add (F.wf.zero0 N)};rw[if_neg h7] at h;by_cases h8:r.k=8;{rw[if_pos h8] at h;rw[<-two h];exact hp.sub hv};rw[if_neg h8] at h;by_cases h9:r.k=9;{rw[if_pos h9] at h;rw[<-two h];exact hp.scale};rw[if_neg h9] at h;by_cases h10:r.k=10;{rw[if_pos h10] at h;rw[<-two h];exact hv.scale};rw[if_neg h10] at h;by_cases h11:r.k=11;{rw[if_pos h11] at h;rw[<-two h];exact hp.sub (num _)};rw[if_neg h11] at h;by_cases h12:r.k=12;{rw[if_pos h12] at h;rw[<-two h];exact (num _).sub hp};rw[if_neg h12] at h;by_cases h13:r.k=13;{rw[if_pos h13] at h;rw[<-two h];exact (hp.sub (num _)).scale.sub hv.scale};rw[if_neg h13] at h;cases h
theorem Tt {s:Scp}{x:FQry}(hq:s.q=x.q)(hs:x.small)(hx:x.ok){r:Row}{f:F}(h:s.fIn r=some f):f.wf ((x.g.n+x.g.us.length:Nat):Int):=by
 have hn:s.q.g.n=(x.g.n:Int):=by rw[hq];rfl
 have num:=λq=>F.wf.num q ((x.g.n+x.g.us.length:Nat):Int);have hlo:s.q.r.lo.length=x.g.n:=by rw[hq];show (x.r.bs.map _).length=_;rw[yH,hs.r.bs]
 have hhi:s.q.r.hi.length=x.g.n:=by rw[hq];show (x.r.bs.map _).length=_;rw[yH,hs.r.bs]
 unfold Scp.fIn at h;by_cases h0:r.plain=true/\0<=r.i
 ·rw[if_pos h0] at h;by_cases h1:r.k=1;{rw[if_pos h1] at h;obtain⟨y,hy,rfl⟩:=Yr.1 h;have:=(w8.1 hy).1;exact (F.wf.var h0.2 oM).sub (num _)};rw[if_neg h1] at h;by_cases h2:r.k=2;{rw[if_pos h2] at h;obtain⟨y,hy,rfl⟩:=Yr.1 h;have:=(w8.1 hy).1;exact (num _).sub (F.wf.var h0.2 oM)};rw[if_neg h2] at h;by_cases h3:r.k=3;{rw[if_pos h3] at h;obtain⟨y,hy,rfl⟩:=Yr.1 h;have hm:=yE hy;rw[hq] at hm;obtain⟨g,hg,rfl⟩:=y9.1 hm;rw[dO];exact ((hx.rows g hg).mono oM).add (F.wf.zero0 _)};rw[if_neg h3] at h;by_cases h4:r.k=4
  ·rw[if_pos h4] at h;split at h
   ·rename_i d hd;split at h
    ·(rename_i hfit;have hdi:d.k=3\/d.k=4->0<=d.i/\d.i<((x.g.n+x.g.us.length:Nat):Int):=λhk=>by unfold Dec.fits at hfit;rw[if_neg oM,if_pos hk,xA,decide_eq_true_eq] at hfit;omega);split at h
     {rename_i hk;cases h;obtain⟨d1,d2⟩:=hdi (.inl hk);exact (F.wf.var d1 d2).sub (num _)};{split at h;{rename_i hk;cases h;obtain⟨d1,d2⟩:=hdi (.inr hk);exact ((F.wf.var d1 d2).sub (num _)).scale};{cases h}}
    {cases h}
   {cases h}
  rw[if_neg h4] at h;cases h
 {rw[if_neg h0] at h;cases h}
theorem Nm {s:Scp}{x:FQry}(hq:s.q=x.q)(hs:x.small)(hx:x.ok)(r:Row)(f:F)(h:s.fm r=some f):f.wf ((x.g.n+x.g.us.length:Nat):Int):=by
 have hn:s.q.g.n=(x.g.n:Int):=by rw[hq];rfl
 unfold Scp.fm at h;split at h;{cases h};{split at h;{exact Tt hq hs hx h};{unfold Scp.fUn at h;split at h;{rename_i hi;split at h;{rename_i p hp;have hl:=(w8.1 hp).1;rw[hq] at hp;have hp':(x.g.us.map fA)[r.i.toNat]?=some p:=hp;rw[jJ] at hp';obtain⟨g,hg,rfl⟩:=Yr.1 hp';have hl2:=(w8.1 hg).1;rw[dO] at h;exact RD ((hx.us _ g hg).mono oM) (F.wf.var oM oM) h};{cases h}};{cases h}}}

def evX (X:Int->Rat):List (Int×Rat)->Rat
 |[]=>0| t::r=>t.2*X t.1+evX X r
def F.at (f:F) (X:Int->Rat):Rat:=f.c+evX X f.ts
theorem Wn (X:Int->Rat)(v:Int)(q:Rat)(r):evX X (pc v q r)=q*X v+evX X r:=by unfold pc;split;{rename_i h;rw[h];grind};{rfl}
theorem nY (X:Int->Rat)(c:Rat):∀ (a b:List (Int×Rat)),evX X (mrg c a b)=evX X a+evX X b*c
 |[],[]=>by rw[mrg];simp only[evX];grind| a::aa,[]=>by rw[mrg,Wn,nY X c aa []];simp only[evX];grind| [],b::bb=>by rw[mrg,Wn,nY X c [] bb];simp only[evX];grind| a::aa,b::bb=>by
  rw[mrg];split;{rw[Wn,nY X c aa (b::bb)];simp only[evX];grind}
  ·split;{rw[Wn,nY X c (a::aa) bb];simp only[evX];grind}
   ·(have:a.1=b.1:=by omega);rw[Wn,nY X c aa bb];simp only[evX,this];grind
termination_by a b=>a.length+b.length
theorem WO (X:Int->Rat)(f g:F)(c:Rat):(f.merge g c).at X=f.at X+g.at X*c:=by show f.c+g.c*c+evX X (mrg c f.ts g.ts)=f.c+evX X f.ts+(g.c+evX X g.ts)*c;rw[nY];grind
theorem TV (X:Int->Rat)(f g:F):(f.add g).at X=f.at X+g.at X:=by unfold F.add;rw[WO];grind
theorem i3 (X:Int->Rat)(f g:F):(f.sub g).at X=f.at X-g.at X:=by unfold F.sub;rw[WO];grind
theorem Qv (X:Int->Rat):F.zero.at X=0:=by show (0:Rat)+0=0;grind
theorem Zd (X:Int->Rat)(f:F)(c:Rat):(f.scale c).at X=f.at X*c:=by unfold F.scale;rw[WO];show F.zero.at X+_=_;rw[Qv];grind
theorem ZV (X:Int->Rat)(v:Int):(F.var v).at X=X v:=by show (0:Rat)+(1*X v+0)=X v;grind
theorem Qw (X:Int->Rat)(q:Rat):(F.num q).at X=q:=by show q+0=q;grind
theorem H0 (s:Scp)(n unit:Int)(up:Bool)(hs:Lsz (2^32) s.lems):zH 147 [sv s,iV n,iV unit,zM up] (.tup [rv (zK ((s.lem n unit up).getD 0)),zM ((s.lem n unit up).isSome)]):=by
 refine sF Tryz.f147 ?_;have hno:=λh=>CN (s:=s) (n:=n) (unit:=unit) (up:=up) h;have hat:=λ(m:Lem) h1 h2 h3=>Hf (s:=s) (n:=n) (unit:=unit) (up:=up) (m:=m) h1 h2 h3;have hsl:=hs.len;have hss:=hs.sz;generalize s.lem n unit up=o at *;obtain⟨⟨⟨gn,us,os⟩,⟨lo,hi,rows⟩,⟨ts,c1,c2,c3⟩⟩,path,lems⟩:=s;simp only at hno hat hsl hss;have fin:∀ (W:R) (b:Bool),o=none->W=zK (o.getD 0)/\b=o.isSome->W=R0/\b=false:=λW b h1 h2=>by rw[h1] at h2;exact⟨by rw[h2.1];exact uI,h2.2⟩
 obtain⟨W,hW⟩:∃ W,W=zK (o.getD 0):=⟨_,rfl⟩;obtain⟨b,hb⟩:∃ b,b=o.isSome:=⟨_,rfl⟩;rw[<-hW,<-hb];have fin':o=none->W=R0/\b=false:=λh=>fin W b h ⟨hW,hb⟩;have fin2:∀ q,o=some q->W=zK q/\b=true:=λq h=>by grind
 clear fin hW hb;obtain⟨W1,W2,W3⟩:=W;have fin3:o=none->W1=false/\W2=[]/\W3=[]/\b=false:=λh=>by grind
 clear fin';cbv;refine zX (λe1=>?_) (λe1=>?_);{cbv;obtain⟨g1,g2,g3,g4⟩:=fin3 (hno oM);subst g1 g2 g3 g4;exact rA};cbv;refine zX (λe2=>?_) (λe2=>?_);{cbv;obtain⟨g1,g2,g3,g4⟩:=fin3 (hno (by rw[zB] at e2;exact om));subst g1 g2 g3 g4;exact rA};cbv;rw[zB] at e2;obtain⟨m,hm⟩:∃ m,lems[(n-1).toNat]?=some m:=yB (by exact om);have hat':=hat m oM (by exact om) hm;have hms:=hss m (yE hm);have cc:=s47 m.v hms;have idx:∀ {K:List PV->Prop},K (lc m)->IdxOk 6 (λ_=>enc lc lems) (λ_=>n-1) K:=λhK=>wB (l:=lems) (n-1).toNat oM (by exact om) kC j7 (λm' hm'=>by grind);generalize hq:m.v.q=q at *;obtain⟨mu,mup,⟨v1,v2,v3⟩,mpf⟩:=m;simp only at hat';clear hat hno hq;generalize hwq:zK q=wq at *;refine⟨zE om om,idx ?_⟩;cbv;refine zX (λe3=>?_) (λe3=>?_);{cbv;refine⟨zE om om,idx ?_⟩;cbv;refine zG (λe4=>?_) (λe4=>?_);{cbv;obtain⟨g1,g2⟩:=fin2 q (by grind);rw[hwq] at g1;subst g1 g2;refine⟨zE om om,idx ?_⟩;cbv;refine cA cc ?_;cbv;exact rA};{cbv;obtain⟨g1,g2,g3,g4⟩:=fin3 (by grind);subst g1 g2 g3 g4;exact rA}};{cbv;obtain⟨g1,g2,g3,g4⟩:=fin3 (by grind);subst g1 g2 g3 g4;exact rA}
theorem pR (s:Scp)(kind unit:Int)(hs:Dsz (2^32) s.path):zH 76 [sv s,iV kind,iV unit] (zM (s.dcd kind unit)):=by
 refine sF Tryz.f76 ?_;have cf:∀ d,d∈s.path->zH 92 [qv s.q,dv d] (zM (d.fits s.q)):=λd h=>D1 s.q d (hs.sz d h);have hpl:=hs.len;generalize hr:s.dcd kind unit=r;have hr0:r=(s.path.drop 0).any (λd=>decide (d.k=kind)&&(decide (d.i=unit)&&d.fits s.q)):=hr.symm;obtain⟨ft,hft⟩:∃ ft:Dec->Bool,∀ d,ft d=d.fits s.q:=⟨_,λ_=>rfl⟩;simp only[<-hft] at cf hr0;obtain⟨P,hP⟩:∃ P:Dec->Bool,(λd=>decide (d.k=kind)&&(decide (d.i=unit)&&ft d))=P:=⟨_,rfl⟩;rw[hP] at hr0;have hPd:∀ d,P d=(decide (d.k=kind)&&(decide (d.i=unit)&&ft d)):=λd=>by grind
 clear hP hft hr hs;cbv;refine zY (σ:=Nat) (λi=>⟨[(1,iV kind),(2,iV unit),(3,.ptr 3 0),(7,iV i)],[(3,.box (sc s))]⟩) (λi=>i<=s.path.length/\r=(s.path.drop i).any P) (λi=>s.path.length-i) 0 ⟨by omega,hr0⟩ (wkZ) ?_;clear hr0;intro i hi;obtain⟨h1,h2⟩:=hi;cbv;refine zG (λh5=>?_) (λh5=>?_)
 ·have hlt:=tB h5;obtain⟨d,hd⟩:=yB hlt;have cv:=cf d (yE hd);rw[yJ hd,List.any_cons,hPd] at h2;generalize ft d=fd at *;generalize hrest:(s.path.drop (i+1)).any P=rest at *;cbv;refine zP 28 (by cbv) ?_;cbv;refine xL hd tC iW ?_;cbv;refine zX (λe1=>?_) (λe1=>?_)
  rotate_left
  {rw[decide_eq_false e1,s3,rL] at h2;cbv;exact⟨zE om om,i+1,⟨om,by grind⟩,om,wkZ⟩};rw[decide_eq_true e1,xQ] at h2;cbv;refine xL hd tC iW ?_;cbv;refine zX (λe2=>?_) (λe2=>?_)
  rotate_left
  {rw[decide_eq_false e2,s3,rL] at h2;cbv;exact⟨zE om om,i+1,⟨om,by grind⟩,om,wkZ⟩};rw[decide_eq_true e2,xQ] at h2;cbv;refine xL hd tC iW ?_;cbv;refine dA cv ?_;cbv;refine zZ (λe3=>?_) (λe3=>?_)
  ·rw[e3,Bool.true_or] at h2;cbv
   (refine rC ?_;cbv)
   exact yN h2
  {rw[e3,rL] at h2;cbv;exact⟨zE om om,i+1,⟨om,by grind⟩,om,wkZ⟩}
 ·have he:=ZN h5 h1;rw[he,vE] at h2;have h2':r=false:=h2;cbv
  (refine rC ?_;cbv)
  exact zO h2'
theorem Rd {f g:F}(hf:Cn f.ts)(hg:Cn g.ts){k n k' n':Nat}(h1:f.fl k n)(h2:g.fl k' n')(hk:k<=2^26)(hk':k'<=2^26)(hn:n<=2^35)(hn':n'<=2^35):zH 148 [fv f,fv g] (fv (f.add g)):=by have h:=DT f.ts (zK f.c) (fA g) hf (by rw[show (fA g).ts=tR g.ts from rfl,Vu];exact hg) ⟨by have:=h1.len;omega,λt ht=>(h1.t t ht).mono oM⟩ ((z5 h1.c).mono oM) ((Gv h2 oM).mono oM) (by have:=h1.len;have:=h2.len;rw[show (fA g).ts=tR g.ts from rfl,vR];omega);rw[dO,yD] at h;exact h
theorem VC {f g:F}(hf:Cn f.ts)(hg:Cn g.ts){k n k' n':Nat}(h1:f.fl k n)(h2:g.fl k' n')(hk:k<=2^26)(hk':k'<=2^26)(hn:n<=2^35)(hn':n'<=2^35):zH 90 [fv f,fv g] (fv (f.sub g)):=by have h:=JT f.ts (zK f.c) (fA g) hf (by rw[show (fA g).ts=tR g.ts from rfl,Vu];exact hg) ⟨by have:=h1.len;omega,λt ht=>(h1.t t ht).mono oM⟩ ((z5 h1.c).mono oM) ((Gv h2 oM).mono oM) (by have:=h1.len;have:=h2.len;rw[show (fA g).ts=tR g.ts from rfl,vR];omega);rw[dO,yD] at h;exact h
theorem pT {f:F}{q:Rat}{k n m:Nat}(h1:f.fl k n)(hq:Fits m q)(hk:k<=2^31)(hn:n<=2^35)(hm:m<=2^31):zH 24 [fv f,rv (zK q)] (fv (f.scale q)):=by have h:=eS (fA f) (zK q) ((Gv h1 oM).mono oM) ((z5 hq).mono oM);rw[dO,yD] at h;exact h
theorem Ga {x:R}(h:x.ok=true):zK x.q=x:=(of_decide_eq_true h).symm
theorem QR {vars:Int}:∀ {ts:List (Int×R)} {p:Int},vT vars p ts=true->tR (tq ts)=ts/\Cn (tq ts)/\∀ t,t∈tq ts->p<t.1
 |[],p,_=>⟨rfl,Cn.nil,λt h=>absurd h (by simp[tq])⟩| t::r,p,h=>by rw[eK] at h;simp only[xA,decide_eq_true_eq] at h;obtain⟨⟨⟨⟨⟨h1,h2⟩,h3⟩,h4⟩,h5⟩,h6⟩:=h;obtain⟨g1,g2,g3⟩:=QR h6;refine⟨?_,?_,λu hu=>?_⟩;{grind [tR,tq,Ga]};{exact Cn.cons (t:=(t.1,t.2.q)) g2 g3 h4};{rcases yS.1 hu with rfl|hu;{exact h3};{have:=g3 u hu;omega}}
theorem s7 {a:A}{vars:Int}(h:a.valid vars=true):fA a.f=a/\Cn a.f.ts:=by unfold A.valid at h;simp only[xA] at h;obtain⟨g1,g2,_⟩:=QR h.1;refine⟨?_,g2⟩;obtain⟨ts,c⟩:=a;show (⟨tR (tq ts),zK c.q⟩:A)=⟨ts,c⟩;grind [Ga]
theorem add_zero {f:F}(h:Cn f.ts):f.add F.zero=f:=by refine F.ext' ?_ ?_;{refine (Cn.mrg h Cn.nil).ext h (λv=>?_);grind [co,m6]};{show f.c+0*1=f.c;grind}
structure Qry.can (q:Qry):Prop where
 us:∀ a,a∈q.g.us->fA a.f=a/\Cn a.f.ts
 os:∀ a,a∈q.g.os->fA a.f=a/\Cn a.f.ts
 rows:∀ a,a∈q.r.rows->fA a.f=a/\Cn a.f.ts
 lo:∀ x,x∈q.r.lo->zK x.q=x
 hi:∀ x,x∈q.r.hi->zK x.q=x
theorem Mf:∀ {lo hi:List R},lo.length=hi.length->vB lo hi=true->(∀ x,x∈lo->zK x.q=x)/\∀ x,x∈hi->zK x.q=x:=λhe h=>by rw[Y2 he] at h;simp only[xA,bX] at h;grind [Ga]
theorem Qry.can_of {q:Qry}(h:q.valid=true):q.can:=by unfold Qry.valid Grp.valid Reg.valid at h;simp only[xA,decide_eq_true_eq,bX] at h;obtain⟨⟨⟨⟨h1,h2⟩,h3⟩,⟨h4,h5⟩,h6⟩,h7⟩:=h;obtain⟨b1,b2⟩:=Mf oM h5;refine⟨λa ha=>?_,λa ha=>s7 (h3 a ha),λa ha=>s7 (h6 a ha),b1,b2⟩;obtain⟨j,_,hj⟩:=JB h2 ha;exact s7 hj
end Go.Proofs.YtboocdbmnfjomaaGreat
