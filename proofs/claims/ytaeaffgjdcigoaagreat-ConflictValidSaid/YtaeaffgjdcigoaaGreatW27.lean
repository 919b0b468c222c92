/- A part of the proof: SpC, SpD, SpE, SpF, SpG, SpH, SpI, SpJ, SpK, SpL, SpM, SpN, SpO, SpP, SpQ, SpR, SpS, SpT, SpU. -/
import Derived.Test.YtaeaffgjdcigoaaGreatW26
set_option linter.all false
namespace Go.Proofs.YtaeaffgjdcigoaaGreat
open Go
structure F.wf (f:F) (n:Int):Prop where
 cn:Cn f.ts
 v:∀ t,t∈f.ts->0<=t.1/\t.1<n
theorem F.wf.merge {f g:F}{c:Rat}{n:Int}(hf:f.wf n)(hg:g.wf n):(f.merge g c).wf n:=⟨hf.cn.mrg hg.cn,λt ht=>by
 rcases fZ ht with⟨u,hu,e⟩|⟨u,hu,e⟩;{rw[<-e];exact hf.v u hu}
 ·rw[<-e];exact hg.v u hu⟩
theorem F.wf.num (q:Rat)(n:Int):(F.num q).wf n:=⟨Cn.nil,λt ht=>absurd ht (by simp[F.num])⟩
theorem F.wf.var {v n:Int}(h1:0<=v)(h2:v<n):(F.var v).wf n:=⟨Cn.nil.cons (by simp) (by grind),λt ht=>by grind [F.var]⟩
theorem F.wf.zero0 (n:Int):(⟨[],0⟩:F).wf n:=⟨Cn.nil,λt ht=>absurd ht (by simp)⟩
theorem F.wf.scale {f:F}{c:Rat}{n:Int}(hf:f.wf n):(f.scale c).wf n:=F.wf.merge (F.wf.zero0 n) hf
theorem F.wf.add {f g:F}{n:Int}(hf:f.wf n)(hg:g.wf n):(f.add g).wf n:=hf.merge hg
theorem F.wf.mono {f:F}{n m:Int}(hf:f.wf n)(h:n<=m):f.wf m:=⟨hf.cn,λt ht=>⟨(hf.v t ht).1,by have:=(hf.v t ht).2;omega⟩⟩
def Qw (raw:List UInt8)(N:Nat):∀ (n v:Nat) (f:F) (a:Nat),v+n<=N->f.wf N->(t8 raw n v f a).1.wf N
 |0,_,_,_,_,h=>h| n+1,v,f,a,hv,h=>by unfold t8;split;{exact Qw raw N n _ _ _ oM (h.add (F.wf.var oM oM).scale)};{exact Qw raw N n _ _ _ oM h}
theorem BI (raw:List UInt8)(n a:Nat):(fdF raw n a).1.wf n:=Qw raw n n 0 _ _ oM (F.wf.num _ _)
def Qt {raw:List UInt8}{d:Nat}:∀ {n v a:Nat} {i:Nat} {f:F},(fdL raw d n v a).1[i]?=some f->f.wf ((v+i*d:Nat):Int)
 |0,_,_,i,f,h=>by grind [fdL]| n+1,v,a,0,f,h=>by simp only[fdL,Zx,mF] at h;rw[<-h,ZA,Vw];grind [BI]| n+1,v,a,i+1,f,h=>by simp only[fdL,Zw] at h;have:=Qt h;grind
def qW (L:List Lem) (k:Nat):Rat:=((L[k-1]?).map λm=>m.v.q).getD 0
def aD (L:List Lem) (unit:Int):Nat->List Lem->Nat×Nat->Nat×Nat
 |_,[],b=>b| n,m::r,b=>aD L unit (n+1) r (if m.u=unit then (if m.up=true then (if b.2=0\/uV m.v.q (qW L b.2)<0 then (b.1,n+1) else b) else (if b.1=0\/0<uV m.v.q (qW L b.1) then (n+1,b.2) else b)) else b)
def Scp.best (s:Scp) (unit:Int):Nat×Nat:=aD s.lems unit 0 s.lems (0,0)
def WS {L:List Lem}{unit:Int}:∀ {r:List Lem} {n:Nat} {b:Nat×Nat},r=L.drop n->(∀ k,k=b.1\/k=b.2->k≠0->∃ m,L[k-1]?=some m/\m.u=unit) ->∀ k,k=(aD L unit n r b).1\/k=(aD L unit n r b).2->k≠0->∃ m,L[k-1]?=some m/\m.u=unit
 |[],n,b,_,hb=>hb| m::r,n,b,hr,hb=>by
  have hm:L[n]?=some m:=by
   (have:(L.drop n)[0]?=some m:=by grind);grind
  have hr':r=L.drop (n+1):=by
   (have:(L.drop n).drop 1=L.drop (n+1):=by simp_all);grind
  unfold aD;refine WS hr' λk hk hk0=>?_;split at hk;{rename_i hu;have new:∃ m,L[n+1-1]?=some m/\m.u=unit:=⟨m,hm,hu⟩;split at hk;{split at hk;{rcases hk with rfl|rfl;{simp_all};omega};{exact hb k hk hk0}};{split at hk;{rcases hk with rfl|rfl;{exact new};simp_all};{exact hb k hk hk0}}};{exact hb k hk hk0}
def cE {s:Scp}{unit:Int}{k:Nat}(hk:k=(s.best unit).1\/k=(s.best unit).2)(h0:k≠0):∃ m,s.lems[k-1]?=some m/\m.u=unit :=
 WS (by simp) (λk hk hk0=>by omega) k hk h0
def xR (a b:List (Row×Rat)) (c:Rat):List (Row×Rat):=b.foldl (λa m=>plMq a m.1 (m.2*c)) a
def Scp.atLeastM (s:Scp) (v:Int):List (Row×Rat):=if v<s.q.g.n then [(⟨1,v,0,0⟩,1)] else [(⟨5,v-s.q.g.n,0,0⟩,1)]
def upM (j:Int) (lo hi:Nat) (l u:Rat):List (Row×Rat) :=
 if yA u<=0 then [(⟨10,j,0,hi⟩,1)]
 else if 0<=yA l then [(⟨8,j,lo,0⟩,1),(⟨12,j,0,hi⟩,1)]
 else [(⟨12,j,0,hi⟩,(1/(u-l))*u),(⟨13,j,lo,hi⟩,1/(u-l))]
def Scp.atMostM (s:Scp) (v:Int):Option (List (Row×Rat)) :=
 if v<s.q.g.n then some [(⟨2,v,0,0⟩,1)]
 else if (s.best (v-s.q.g.n)).1=0\/(s.best (v-s.q.g.n)).2=0 then none
 else some (upM (v-s.q.g.n) (s.best (v-s.q.g.n)).1 (s.best (v-s.q.g.n)).2 (qW s.lems (s.best (v-s.q.g.n)).1) (qW s.lems (s.best (v-s.q.g.n)).2))
def Scp.aboveL (s:Scp):List (Int×Rat)->List (Row×Rat)->Option (List (Row×Rat))
 |[],l=>some l
 |t::r,l=>match (if 0<yA t.2 then some (s.atLeastM t.1) else s.atMostM t.1) with
  |none=>none| some more=>s.aboveL r (xR l more (vI t.2))
def Scp.above (s:Scp) (f:F):Option (Rat×List (Row×Rat)):=(s.aboveL f.ts []).map λl=>((f.sub (s.sum (mR l)).2).c,l)
def Vs (j:Int) (x y:Option (Rat×List (Row×Rat))):List Lem :=
 (match x with
 |some v=>[⟨j,false,zI v.1,mR v.2⟩]| none=>[])++(match y with
 |some w=>[⟨j,true,zI (-w.1),mR w.2⟩]| none=>[])
def QN (q:Qry) (path:List Dec):List A->Nat->List Lem->List Lem
 |[],_,L=>L| p::r,j,L=>QN q path r (j+1) (L++Vs j ((⟨q,path,L⟩:Scp).above p.f) ((⟨q,path,L⟩:Scp).above (p.f.scale (-1))))
def Scp.bounded (s:Scp):Scp:=⟨s.q,s.path,QN s.q s.path s.q.g.us 0 s.lems⟩
inductive Wt (s:Scp):List (Row×Rat)->Nat->Prop
 |nil:Wt s [] 0
 |cons {r q l k g N} (hk:Fits k q) (hg:∀ f,s.fm r=some f->f.fl g 3000) (h:Wt s l N):Wt s ((r,q)::l) (k+g+5+N)
theorem Wt.to {s l N M}(h:Wt s l N)(e:N=M):Wt s l M:=e ▸ h
theorem Wt.mem {s:Scp}:∀ {l:List (Row×Rat)} {N:Nat},Wt s l N->∀ t,t∈l->Fits N t.2
 |_,_,.nil,t,ht=>absurd ht (by simp)| _,_,.cons hk hg h,t,ht=>by rcases yG.1 ht with rfl|ht;{exact hk.mono oM};{exact (h.mem t ht).mono oM}
theorem Wt.plM {s:Scp}{r:Row}{q:Rat}{k g:Nat}(hk:Fits k q)(hg:∀ f,s.fm r=some f->f.fl g 3000):∀ {l:List (Row×Rat)} {N:Nat},Wt s l N->∃ M,M<=k+g+5+N/\Wt s (plM r q l) M
 |_,_,.nil=>⟨_,yD _,.cons hk hg .nil⟩| _,_,.cons (r:=r') (q:=q') (l:=l) (k:=k') (g:=g') (N:=N') hk' hg' h=>by unfold Go.Proofs.YtaeaffgjdcigoaaGreat.plM;split;{obtain⟨M,h1,h2⟩:=Wt.plM hk hg h;exact⟨_,by omega,.cons hk' hg' h2⟩};{split;{rename_i e;have e':r'=r:=e;rw[e'] at hg';refine⟨_,?_,.cons (k:=k'+k+1) ((kC hk' hk).mono oM) hg' h⟩;omega};{exact⟨_,by omega,.cons hk hg (.cons hk' hg' h)⟩}}
theorem Wt.plMq {s:Scp}{r:Row}{q:Rat}{k g:Nat}(hk:Fits k q)(hg:∀ f,s.fm r=some f->f.fl g 3000){l:List (Row×Rat)}{N:Nat}(h:Wt s l N):∃ M,M<=k+g+5+N/\Wt s (plMq l r q) M:=by unfold Go.Proofs.YtaeaffgjdcigoaaGreat.plMq;split;{grind};{exact Wt.plM hk hg h}
theorem Wt.merge {s:Scp}{c:Rat}{kc:Nat}(hc:Fits kc c):∀ {b:List (Row×Rat)} {B:Nat} {a:List (Row×Rat)} {N:Nat},Wt s b B->Wt s a N->∃ M,M<=B+(kc+2)*b.length+N/\Wt s (xR a b c) M
 |_,_,a,N,.nil,ha=>⟨N,by simp,ha⟩| _,_,a,N,.cons (r:=r) (q:=q) (l:=l) (k:=k) (g:=g) (N:=B) hk hg h,ha=>by obtain⟨M1,h1,h2⟩:=Wt.plMq (q:=q*c) (y8 hk hc) hg ha;obtain⟨M,g1,g2⟩:=Wt.merge hc h h2;refine⟨M,?_,g2⟩;rw[rK,QZ];omega
def CH (r:Row)(q:Rat)(l):(plMq l r q).length<=l.length+1:=by grind [plMq,U6]
def n9 (c:Rat):∀ (b a:List (Row×Rat)),(xR a b c).length<=a.length+b.length
 |[],a=>yD _| t::b,a=>by have h1:=n9 c b (plMq a t.1 (t.2*c));have h2:=CH t.1 (t.2*c) a;have e:xR a (t::b) c=xR (plMq a t.1 (t.2*c)) b c:=rfl;grind
theorem Wt.sumL {s:Scp}:∀ {l:List (Row×Rat)} {N:Nat},Wt s l N->∀ {acc f:F} {a n:Nat},acc.fl a n->sumL s acc (mR l)=some f->f.fl (a+N) (n+3000*l.length)
 |_,_,.nil,acc,f,a,n,ha,h=>by cases h;exact ha
 |_,_,.cons (r:=r) (q:=q) (l:=l) (k:=k) (g:=g) (N:=B) hk hg hw,acc,f,a,n,ha,h=>by have e:mR ((r,q)::l)=⟨r,zI q⟩::mR l:=rfl;rw[e] at h;unfold Go.Proofs.YtaeaffgjdcigoaaGreat.sumL at h;dsimp only at h;split at h;{cases h};{rename_i f0 hf0;rw[z6] at h;have:=hw.sumL (ha.add ((hg f0 hf0).scale hk)) h;exact this.mono oM (by grind)}
theorem Wt.sum {s:Scp}{l:List (Row×Rat)}{N:Nat}(h:Wt s l N):(s.sum (mR l)).2.fl (1+N) (3000*l.length):=by unfold Scp.sum;split;{exact zero_fl.mono oM oM};{split;{exact zero_fl.mono oM oM};{rename_i f hf;exact (h.sumL zero_fl hf).mono oM oM}}
def LB (K:Nat->Nat) (L:List Lem):Prop:=∀ m,m∈L->∃ i:Nat,m.u=i/\Fits (K i) m.v.q
def C7 {K:Nat->Nat}{s:Scp}(hK:∀ i,1<=K i)(h:LB K s.lems)(k:Int)(i:Nat)(up:Bool):Fits (K i) ((s.lem k i up).getD 0):=by
 unfold Scp.lem;split
 ·split
  ·rename_i m hm;split
   ·(rename_i e;obtain⟨i',e',hf⟩:=h m (z3 hm);have:i'=i:=by omega);simp_all
   {exact uL (hK i)}
  {exact uL (hK i)}
 grind [uL]
def Xd {K:Nat->Nat}{s:Scp}(h:LB K s.lems){i k:Nat}(hk:k=(s.best i).1\/k=(s.best i).2)(h0:k≠0):Fits (K i) (qW s.lems k):=by obtain⟨m,hm,hu⟩:=cE hk h0;obtain⟨i',e',hf⟩:=h m (z3 hm);grind [qW]
def Ph {s:Scp}{x:FQry}(hq:s.q=x.q)(hx:x.small){r:Row}(hr:r.k=1\/r.k=2){f:F}(h:s.fm r=some f):f.fl 6 3000:=by
 unfold Scp.fm at h;split at h;{cases h};rw[if_pos oM] at h;unfold Scp.fIn at h;split at h
 ·split at h
  ·cases hy:s.q.r.lo[r.i.toNat]? with
   |none=>grind| some y =>
    rw[hy] at h;cases h;have hm:=z3 hy;rw[hq] at hm;obtain⟨b,hb,rfl⟩:=yZ.1 hm;dsimp only;rw[z6];exact ((gW r.i).sub (u6 (hx.r.bf b hb).1)).mono oM oM
  ·split at h
   ·cases hy:s.q.r.hi[r.i.toNat]? with
    |none=>grind| some y =>
     rw[hy] at h;cases h;have hm:=z3 hy;rw[hq] at hm;obtain⟨b,hb,rfl⟩:=yZ.1 hm;dsimp only;rw[z6];exact ((u6 (hx.r.bf b hb).2).sub (gW r.i)).mono oM oM
   {omega}
 grind
def AI {s:Scp}{r:Row}{p v:F}{l u:Option Rat}{K:Nat}{f:F}(hk:1<=K)(hp:p.fl 43 7)(hv:v.fl 1 1)(hl:Fits K (l.getD 0))(hu:Fits K (u.getD 0))(h:unF s r p v l u=some f):f.fl (4*K+60) 3000:=by
 unfold unF at h;generalize l.getD 0=lq at *;generalize u.getD 0=uq at *;have two:∀ {c:Prop} [Decidable c] {x:F},(if c then some x else none)=some f->x=f:=λh=>by grind
 split at h;{rw[<-two h];exact hv.mono oM oM};split at h;{rw[<-two h];exact (hv.sub hp).mono oM oM};split at h;{rw[<-two h];exact (hp.add zero_fl).mono oM oM};split at h;{rw[<-two h];exact (hp.sub hv).mono oM oM};split at h;{rw[<-two h];exact (hp.scale wK).mono oM oM};split at h;{rw[<-two h];exact (hv.scale wK).mono oM oM};split at h;{rw[<-two h];exact (hp.sub (u6 hl)).mono oM oM};split at h;{rw[<-two h];exact ((u6 hu).sub hp).mono oM oM};split at h;{rw[<-two h];exact (((hp.sub (u6 hl)).scale hu).sub (hv.scale (uC hu hl))).mono oM oM};grind
def Pf {s:Scp}{x:FQry}{K:Nat->Nat}(hq:s.q=x.q)(hx:x.small)(hK:∀ i,1<=K i)(hL:LB K s.lems){r:Row}{i:Nat}(hr:5<=r.k)(hi:r.i=i){f:F}(h:s.fm r=some f):f.fl (4*K i+60) 3000:=by
 unfold Scp.fm at h;split at h;{cases h};rw[if_neg oM] at h;unfold Scp.fUn at h;split at h
 ·cases hy:s.q.g.us[r.i.toNat]? with
  |none=>grind| some p =>
   rw[hy] at h;have hm:=z3 hy;rw[hq] at hm;obtain⟨b,hb,rfl⟩:=yZ.1 hm;rw[hi] at h;dsimp only at h;rw[qG] at h;exact AI (hK i) (hx.g.uf b hb) (gW _) (C7 hK hL _ _ _) (C7 hK hL _ _ _) h
 grind
def cst (K:Nat->Nat) (n v:Nat):Nat:=if v<n then 60 else 13*K (v-n)+230
def XQ {s:Scp}{r:Row}{g:Nat}(hg:∀ f,s.fm r=some f->f.fl g 3000):Wt s [(r,1)] (g+6):=(Wt.cons fits_one hg .nil).to oM
def C8 {s:Scp}{x:FQry}{K:Nat->Nat}(hq:s.q=x.q)(hx:x.small)(hK:∀ i,1<=K i)(hL:LB K s.lems)(v:Nat):∃ B,B+48*(s.atLeastM v).length<=cst K x.g.n v/\Wt s (s.atLeastM v) B:=by
 have hn:s.q.g.n=(x.g.n:Int):=by rw[hq];rfl
 unfold Scp.atLeastM cst;rw[hn];by_cases h:v<x.g.n;{rw[if_pos oM,if_pos h];exact⟨_,by simp,XQ λf hf=>Ph hq hx (.inl rfl) hf⟩};{rw[if_neg oM,if_neg h];exact⟨_,by grind,XQ λf hf=>Pf (i:=v-x.g.n) hq hx hK hL (by grind) (by grind) hf⟩}
def MR {s:Scp}{x:FQry}{K:Nat->Nat}(hq:s.q=x.q)(hx:x.small)(hK:∀ i,1<=K i)(hL:LB K s.lems){i lo hi:Nat}{l u:Rat}(hl:Fits (K i) l)(hu:Fits (K i) u):∃ B,B+48*(upM i lo hi l u).length<=13*K i+230/\Wt s (upM i lo hi l u) B:=by
 have hg:∀ (k lo hi:Int),5<=k->∀ f,s.fm ⟨k,i,lo,hi⟩=some f->f.fl (4*K i+60) 3000:=λk lo hi hk f hf=>Pf hq hx hK hL hk rfl hf;have h1:=hK i;have hs:=bI (uC hu hl);have hd:Fits (2*K i+1) (1/(u-l)):=by grind
 unfold upM;split;{exact⟨_,by grind,XQ (hg _ _ _ (by decide))⟩};{split;{exact⟨_,by grind,Wt.cons fits_one (hg _ _ _ (by decide)) (XQ (hg _ _ _ (by decide)))⟩};{exact⟨_,by grind,Wt.cons ((y8 hd hu).mono (k:=_) (m:=3*K i+2) oM) (hg _ _ _ (by decide)) (Wt.cons hd (hg _ _ _ (by decide)) .nil)⟩}}
theorem GH {s:Scp}{x:FQry}{K:Nat->Nat}(hq:s.q=x.q)(hx:x.small)(hK:∀ i,1<=K i)(hL:LB K s.lems)(v:Nat){more:List (Row×Rat)}(h:s.atMostM v=some more):∃ B,B+48*more.length<=cst K x.g.n v/\Wt s more B:=by
 have hn:s.q.g.n=(x.g.n:Int):=by rw[hq];rfl
 unfold Scp.atMostM at h;unfold cst;rw[hn] at h;by_cases hv:v<x.g.n;{rw[if_pos oM] at h;rw[if_pos hv];cases h;exact⟨_,by simp,XQ λf hf=>Ph hq hx (.inr rfl) hf⟩}
 ·(rw[if_neg oM] at h;rw[if_neg hv];have e:(v:Int)-x.g.n=((v-x.g.n:Nat):Int):=by omega);rw[e] at h
  split at h;{cases h};{rename_i hb;cases h;exact MR hq hx hK hL (Xd hL (.inl rfl) (λg=>hb (.inl g))) (Xd hL (.inr rfl) (λg=>hb (.inr g)))}
def pI (K:Nat->Nat) (n:Nat):Nat->Nat
 |0=>0| v+1=>pI K n v+cst K n v
def Z6 {K:Nat->Nat}{n a b:Nat}(h:a<=b):pI K n a<=pI K n b:=by
 induction b with
 |zero=>grind| succ b ih =>
  by_cases e:a=b+1;{grind};grind [pI]
def Yh {s:Scp}{x:FQry}{K:Nat->Nat}(hq:s.q=x.q)(hx:x.small)(hK:∀ i,1<=K i)(hL:LB K s.lems){hi:Nat}:∀ {ts:List (Int×Rat)} {l l':List (Row×Rat)} {N lo:Nat},Cn ts->(∀ t,t∈ts->(lo:Int)<=t.1/\t.1<hi)->(∀ t,t∈ts->Fits 46 t.2)->lo<=hi->Wt s l N->s.aboveL ts l=some l'->∃ M,M+pI K x.g.n lo<=N+pI K x.g.n hi/\Wt s l' M
 |[],l,l',N,lo,_,_,_,hlh,hw,h=>by cases h;exact⟨N,by have:=Z6 (K:=K) (n:=x.g.n) hlh;omega,hw⟩
 |t::r,l,l',N,lo,hc,hv,hf,hlh,hw,h=>by
  (obtain⟨h1,h2⟩:=hv t wI;obtain⟨v,hv1⟩:∃ v:Nat,t.1=v:=⟨t.1.toNat,by omega⟩;unfold Scp.aboveL at h;have hm:∀ {more:List (Row×Rat)},(if 0<yA t.2 then some (s.atLeastM t.1) else s.atMostM t.1)=some more->∃ B,B+48*more.length<=cst K x.g.n v/\Wt s more B:=λ{more} g=>by rw[hv1] at g;split at g;{cases g;exact C8 hq hx hK hL v};grind [GH]);split at h;{cases h}
  ·(rename_i more hmore;obtain⟨B,b1,b2⟩:=hm hmore;obtain⟨M1,m1,m2⟩:=Wt.merge (j8 (hf t wI)) b2 hw;have hlo:∀ u,u∈r->((v+1:Nat):Int)<=u.1/\u.1<hi:=λu hu=>by have g1:=hc.lt u hu;grind);obtain⟨M,k1,k2⟩:=Yh hq hx hK hL (hi:=hi) (lo:=v+1) hc.tail hlo (λu hu=>hf u (wJ _ hu)) oM m2 h;refine⟨M,?_,k2⟩;have c1:=Z6 (K:=K) (n:=x.g.n) (a:=lo) (b:=v) oM;have c2:pI K x.g.n (v+1)=pI K x.g.n v+cst K x.g.n v:=rfl;omega
theorem AH (j:Int)(lo hi:Nat)(l u:Rat):(upM j lo hi l u).length<=2:=by grind [upM]
theorem KE {s:Scp}{v:Int}{more}(h:s.atMostM v=some more):more.length<=2:=by grind [Scp.atMostM,AH]
def FU (s:Scp)(v:Int):(s.atLeastM v).length<=2:=by grind [Scp.atLeastM]
def eP {s:Scp}:∀ {ts:List (Int×Rat)} {l l':List (Row×Rat)},s.aboveL ts l=some l'->l'.length<=l.length+2*ts.length
 |[],l,l',h=>by cases h;simp
 |t::r,l,l',h=>by
  unfold Scp.aboveL at h;split at h;{cases h}
  ·(rename_i more hmore;have h1:more.length<=2:=by split at hmore;{cases hmore;exact FU _ _};grind [KE]);have h2:=n9 (vI t.2) more l;have h3:=eP h;grind
def JM {s:Scp}{x:FQry}{K:Nat->Nat}(hq:s.q=x.q)(hx:x.small)(hK:∀ i,1<=K i)(hL:LB K s.lems){f:F}{hi:Nat}(hf:f.fl 46 7)(hw:f.wf hi){v:Rat×List (Row×Rat)}(h:s.above f=some v):Fits (49+pI K x.g.n hi) v.1/\(∀ t,t∈v.2->Fits (pI K x.g.n hi) t.2)/\v.2.length<=14:=by
 unfold Scp.above at h;cases hl:s.aboveL f.ts [] with
 |none=>grind| some l =>
  rw[hl] at h;cases h;obtain⟨M,h1,h2⟩:=Yh hq hx hK hL (hi:=hi) (lo:=0) hw.cn (λt ht=>by have:=hw.v t ht;omega) hf.t (xA _) .nil hl;have h3:pI K x.g.n 0=0:=rfl;have h4:=eP hl;have h5:=hf.len;refine⟨((hf.sub h2.sum).c).mono oM,λt ht=>(h2.mem t ht).mono oM,?_⟩;grind
def KK:Nat->Nat
 |0=>230| 1=>3450| 2=>48530| _=>679650
def HY (i:Nat):1<=KK i:=by unfold KK;grind
def Pq {n j:Nat}(h1:1<=n)(h2:n<=3)(h3:j<=3):49+pI KK n (n+j)<=KK j:=by
 have:∀ n:Fin 4,∀ j:Fin 4,1<=n.val->49+pI KK n.val (n.val+j.val)<=KK j.val:=by decide +kernel
 exact this ⟨n,by omega⟩ ⟨j,by omega⟩ h1
def AD (i:Nat):KK i<=679650:=by unfold KK;grind
structure Lok (L:List Lem) (j:Nat):Prop where
 lb:LB KK L
 len:L.length<=2*j
 pf:∀ m,m∈L->Msz 679650 m.pf/\m.pf.length<=14
 v:∀ m,m∈L->∃ q,m.v=zI q
def TW {l:List (Row×Rat)}{k:Nat}(h:∀ t,t∈l->Fits k t.2)(hl:l.length<=14):Msz k (mR l):=⟨by grind [jN],λm hm=>by obtain⟨t,ht,rfl⟩:=yZ.1 hm;grind [zU]⟩
def Ah {x:FQry}(hx:x.small)(hwf:∀ (i:Nat) (f:F),x.g.us[i]?=some f->f.wf ((x.g.n+i:Nat):Int)){path:List Dec}{j:Nat}{f:F}(hfj:x.g.us[j]?=some f){L:List Lem}(h:Lok L j):Lok (L++Vs j ((⟨x.q,path,L⟩:Scp).above f) ((⟨x.q,path,L⟩:Scp).above (f.scale (-1)))) (j+1)/\(∀ v,(⟨x.q,path,L⟩:Scp).above (f.scale (-1))=some v->Fits (2^20) v.1):=by
 obtain⟨hlen,he⟩:=wE.1 hfj;have hj:j<=3:=by have:=hx.g.us;omega
 have hf:=hx.g.uf _ (z3 hfj);have hw:=hwf j f hfj;have ok:=Pq hx.g.n1 hx.g.n2 hj;have kl:=AD j;have key:∀ {f:F} {v:Rat×List (Row×Rat)},f.fl 46 7->f.wf ((x.g.n+j:Nat):Int)->(⟨x.q,path,L⟩:Scp).above f=some v->Fits (KK j) v.1/\Msz 679650 (mR v.2)/\(mR v.2).length<=14:=λhf hw hv=>by obtain⟨g1,g2,g3⟩:=JM (s:=⟨x.q,path,L⟩) rfl hx HY h.lb hf hw hv;exact⟨g1.mono ok,TW (λt ht=>(g2 t ht).mono oM) g3,by grind [jN]⟩
 have kx:=λv hv=>key (v:=v) (hf.mono (by decide) (by decide)) hw hv;have ky:=λv hv=>key (v:=v) ((hf.scale wK).mono (by decide) (by decide)) hw.scale hv;refine⟨?_,λv hv=>(ky v hv).1.mono (vL kl (by decide))⟩;generalize (⟨x.q,path,L⟩:Scp).above f=X at *;generalize (⟨x.q,path,L⟩:Scp).above (f.scale (-1))=Y at *;have mem:∀ m,m∈Vs j X Y->m.u=(j:Int)/\Fits (KK j) m.v.q/\Msz 679650 m.pf/\m.pf.length<=14/\∃ q,m.v=zI q:=λm hm=>by
  unfold Vs at hm;rcases uX.1 hm with hm|hm
  ·cases X with
   |none=>grind| some v =>
    (have:m=⟨j,false,zI v.1,mR v.2⟩:=by grind);obtain⟨g1,g2,g3⟩:=kx v rfl
    rw[this];exact⟨rfl,by grind [z6],g2,g3,_,rfl⟩
  ·cases Y with
   |none=>grind| some v =>
    (have:m=⟨j,true,zI (-v.1),mR v.2⟩:=by grind);obtain⟨g1,g2,g3⟩:=ky v rfl
    rw[this];exact⟨rfl,by show Fits _ (zI (-v.1)).q;rw[z6];exact qF g1,g2,g3,_,rfl⟩
 refine⟨λm hm=>?_,?_,λm hm=>?_,λm hm=>?_⟩;{rcases uX.1 hm with hm|hm;{exact h.lb m hm};grind}
 ·(rw[gD];have:(Vs j X Y).length<=2:=by unfold Vs;grind);have:=h.len
  omega
 {rcases uX.1 hm with hm|hm;{exact h.pf m hm};grind};{rcases uX.1 hm with hm|hm;{exact h.v m hm};grind}
def BF (raw:List UInt8)(a:Nat)(i:Nat)(f:F)(h:(fdG raw a).1.us[i]?=some f):f.wf (((fdG raw a).1.n+i:Nat):Int):=by have:=Qt (raw:=raw) (d:=1) h;rw[tV] at this;exact this
def RQ {N:Int}:∀ {ts:List (Int×Rat)} {p:Int},Cn ts->(∀ t,t∈ts->p<t.1/\0<=t.1/\t.1<N)->vT N p (tR ts)=true
 |[],_,_,_=>rfl| t::r,p,hc,h=>by obtain⟨h1,h2,h3⟩:=h t wI;have ih:=RQ (N:=N) (p:=t.1) hc.tail (λu hu=>⟨hc.lt u hu,(h u (wJ _ hu)).2⟩);show (decide (0<=t.1)&&decide (t.1<N)&&decide (p<t.1)&&decide ((zI t.2).q≠0)&&(zI t.2).ok&&vT N t.1 (tR r))=true;rw[ih,z6,rS,decide_eq_true h1,decide_eq_true h2,decide_eq_true h3,decide_eq_true hc.hd];rfl
theorem F.wf.valid {f:F}{n:Int}(h:f.wf n):(fA f).valid n=true:=by have h1:=RQ (N:=n) (p:=-1) h.cn (λt ht=>⟨by have:=(h.v t ht).1;omega,(h.v t ht).1,(h.v t ht).2⟩);show (vT n (-1) (tR f.ts)&&(zI f.c).ok)=true;grind [rS]
def RM:∀ {l:List F} {k:Int},(∀ (i:Nat) (f:F),l[i]?=some f->f.wf (k+i))->vU k (l.map fA)=true
 |[],_,_=>rfl| f::r,k,h=>by have h0:=h 0 f rfl;rw[show k+((0:Nat):Int)=k by omega] at h0;have ih:=RM (l:=r) (k:=k+1) (λi g hg=>by have:=h (i+1) g (by grind);grind);show ((fA f).valid k&&vU (k+1) (r.map fA))=true;rw[h0.valid,ih];rfl
def Ap {l:List F}{n:Int}(h:∀ f,f∈l->f.wf n):(l.map fA).all (A.valid n)=true:=by rw[pA];intro a ha;obtain⟨f,hf,rfl⟩:=yZ.1 ha;exact (h f hf).valid
def RS:∀ {l:List (Rat×Rat)},(∀ b,b∈l->b.1<=b.2)->vB (l.map λb=>zI b.1) (l.map λb=>zI b.2)=true
 |[],_=>rfl| b::r,h=>by have ih:=RS (l:=r) (λc hc=>h c (wJ _ hc));grind [uV,vB,rS,z6]
def cR {α:Type}{l:List α}{a:α}(h:a∈l):∃ i:Nat,l[i]?=some a:=List.mem_iff_getElem?.1 h
structure FQry.ok (x:FQry):Prop where
 us:∀ (i:Nat) (f:F),x.g.us[i]?=some f->f.wf ((x.g.n+i:Nat):Int)
 os:∀ f,f∈x.g.os->f.wf ((x.g.n+x.g.us.length:Nat):Int)
 rows:∀ f,f∈x.r.rows->f.wf (x.g.n:Int)
 goal:x.goal.wf ((x.g.n+x.g.us.length:Nat):Int)
def BB (raw:List UInt8)(a:Nat):(fdY raw a).1.ok where
 us:=BF raw a
 os:=λf hf=>by obtain⟨i,hi⟩:=cR hf;have:=Qt (raw:=raw) (d:=0) hi;rw[Nat.mul_zero,Vw] at this;have e:(fdY raw a).1.g.us.length=fdN raw 5 (na raw a):=aW raw 1 _ _ _;rw[e];exact this
 rows:=λf hf=>by obtain⟨i,hi⟩:=cR hf;have:=Qt (raw:=raw) (d:=0) hi;rw[Nat.mul_zero,Vw] at this;exact this
 goal:=BI raw _ _
theorem FQry.small.valid {x:FQry}(h:x.small)(g:x.ok):x.q.valid=true:=by
 have h1:=h.g.n1;have h2:=h.g.n2;have h3:=h.g.us;have h4:=h.g.o1;have h5:=h.g.o2;have h6:=h.r.bs;have h7:=h.r.rows;have hv:x.g.g.vars=((x.g.n+x.g.us.length:Nat):Int):=by show (x.g.n:Int)+((x.g.us.map fA).length:Int)=_;grind
 have hn:x.g.g.n=(x.g.n:Int):=rfl;have hg:x.g.g.valid=true:=by unfold Grp.valid;rw[hv];have a1:vU x.g.g.n x.g.g.us=true:=RM (l:=x.g.us) (k:=(x.g.n:Int)) (λi f hf=>by have:=g.us i f hf;grind);have a2:x.g.g.os.all (A.valid ((x.g.n+x.g.us.length:Nat):Int))=true:=Ap g.os;rw[a1,a2,decide_eq_true ⟨by omega,by omega,by show (x.g.us.map fA).length<=_;grind,by show 1<=(x.g.os.map fA).length;grind,by show (x.g.os.map fA).length<=_;grind⟩];rfl
 have hr:x.r.g.valid (x.g.n:Int)=true:=by unfold Reg.valid;have a1:vB x.r.g.lo x.r.g.hi=true:=RS h.r.ord;have a2:x.r.g.rows.all (A.valid (x.g.n:Int))=true:=Ap g.rows;rw[a1,a2,decide_eq_true ⟨by omega,by omega,by show ((x.r.bs.map _).length:Int)=_;grind,by show ((x.r.bs.map _).length:Int)=_;grind,by show (x.r.rows.map fA).length<=_;grind⟩];rfl
 have hgo:(fA x.goal).valid x.g.g.vars=true:=by rw[hv];exact g.goal.valid
 show (x.g.g.valid&&x.r.g.valid x.g.g.n&&(fA x.goal).valid x.g.g.vars)=true;grind
def fmD (s:Scp) (r:Row):F:=(s.fm r).getD F.zero
def SC (s:Scp) (v:Int):List (Row×Rat)->Rat
 |[]=>0| t::r=>t.2*co (fmD s t.1).ts v+SC s v r
def SK (s:Scp):List (Row×Rat)->Rat
 |[]=>0| t::r=>t.2*(fmD s t.1).c+SK s r
def AV (s:Scp) (l:List (Row×Rat)):Prop:=∀ t,t∈l->∃ f,s.fm t.1=some f
theorem AA (s:Scp)(v:Int)(r:Row)(q:Rat):∀ l,SC s v (plM r q l)=q*co (fmD s r).ts v+SC s v l
 |[]=>rfl| t::l=>by unfold plM;split;{simp only[SC,AA s v r q l];grind};{split;{grind [SC]};{simp only[SC]}}
theorem Az (s:Scp)(r:Row)(q:Rat):∀ l,SK s (plM r q l)=q*(fmD s r).c+SK s l
 |[]=>rfl| t::l=>by unfold plM;split;{simp only[SK,Az s r q l];grind};{split;{grind [SK]};{simp only[SK]}}
theorem Gc {q:Rat}(h:yA q=0):q=0:=VG.1 h
def Fq (s:Scp)(v:Int)(r:Row)(q:Rat)(l):SC s v (plMq l r q)=q*co (fmD s r).ts v+SC s v l:=by grind [plMq,Gc,AA]
def Fp (s:Scp)(r:Row)(q:Rat)(l):SK s (plMq l r q)=q*(fmD s r).c+SK s l:=by grind [plMq,Gc,Az]
def AF {s:Scp}{r:Row}{q:Rat}(hr:∃ f,s.fm r=some f):∀ {l},AV s l->AV s (plM r q l)
 |[],_=>λt ht=>by grind [plM]| u::l,h=>by have hl:AV s l:=λt ht=>h t (wJ _ ht);unfold plM;split;{intro t ht;rcases yG.1 ht with rfl|ht;{exact h _ wI};{exact AF hr hl t ht}};{split;{intro t ht;rcases yG.1 ht with rfl|ht;{exact hr};{exact hl t ht}};{intro t ht;rcases yG.1 ht with rfl|ht;{exact hr};{exact h t ht}}}
def Fr {s:Scp}{r:Row}{q:Rat}(hr:∃ f,s.fm r=some f){l}(h:AV s l):AV s (plMq l r q):=by unfold plMq;split;{exact h};{exact AF hr h}
theorem nJ (s:Scp)(v:Int)(c:Rat):∀ b a,SC s v (xR a b c)=SC s v a+c*SC s v b
 |[],a=>by show SC s v a=_;grind [SC]| t::b,a=>by show SC s v (xR (plMq a t.1 (t.2*c)) b c)=_;rw[nJ s v c b,Fq];grind [SC]
theorem ZB (s:Scp)(c:Rat):∀ b a,SK s (xR a b c)=SK s a+c*SK s b
 |[],a=>by show SK s a=_;grind [SK]| t::b,a=>by show SK s (xR (plMq a t.1 (t.2*c)) b c)=_;rw[ZB s c b,Fp];grind [SK]
def ZD {s:Scp}{c:Rat}:∀ {b a},AV s b->AV s a->AV s (xR a b c)
 |[],a,_,h=>h| t::b,a,hb,h=>ZD (b:=b) (λu hu=>hb u (wJ _ hu)) (Fr (hb t wI) h)
def ZC {c:Rat}(hc:0<=c):∀ {b a},(∀ t,t∈b->0<=t.2)->Rs a->Rs (xR a b c)
 |[],a,_,h=>h| t::b,a,hb,h=>ZC hc (b:=b) (λu hu=>hb u (wJ _ hu)) (Gy h (MK (hb t wI) hc))
theorem vS (f:F)(c:Rat)(v:Int):co (f.scale c).ts v=co f.ts v*c:=by show co (mrg c [] f.ts) v=_;grind [rG,co]
theorem Z7 (f g:F)(v:Int):co (f.add g).ts v=co f.ts v+co g.ts v:=by show co (mrg 1 f.ts g.ts) v=_;grind [rG]
theorem uR (f g:F)(v:Int):co (f.sub g).ts v=co f.ts v-co g.ts v:=by show co (mrg (-1) f.ts g.ts) v=_;grind [rG]
def H8 {s:Scp}:∀ {l:List (Row×Rat)} {acc:F},AV s l->∃ f,sumL s acc (mR l)=some f/\(∀ v,co f.ts v=co acc.ts v+SC s v l)/\f.c=acc.c+SK s l/\(Cn acc.ts->(∀ r g,s.fm r=some g->Cn g.ts)->Cn f.ts)
 |[],acc,_=>⟨acc,rfl,λv=>by grind [SC],by grind [SK],λh _=>h⟩| t::l,acc,h=>by
  (obtain⟨g,hg⟩:=h t wI;obtain⟨f,h1,h2,h3,h4⟩:=H8 (s:=s) (l:=l) (acc:=acc.add (g.scale t.2)) (λu hu=>h u (wJ _ hu));have hd:fmD s t.1=g:=by grind [fmD]);refine⟨f,?_,λv=>?_,?_,λhc hcn=>h4 (hc.mrg (Cn.mrg Cn.nil (hcn _ _ hg))) hcn⟩
  {have e:mR (t::l)=⟨t.1,zI t.2⟩::mR l:=rfl;grind [sumL,z6]};{grind [Z7,vS,SC]};{have e:(acc.add (g.scale t.2)).c=acc.c+(0+g.c*t.2)*1:=rfl;grind [SK]}
def DJ {s:Scp}{l:List (Row×Rat)}(hr:Rs l)(ha:AV s l):∃ f,s.sum (mR l)=(0,f)/\(∀ v,co f.ts v=SC s v l)/\f.c=SK s l/\((∀ r g,s.fm r=some g->Cn g.ts)->Cn f.ts):=by obtain⟨f,h1,h2,h3,h4⟩:=H8 (acc:=F.zero) ha;refine⟨f,?_,λv=>?_,?_,λh=>h4 Cn.nil h⟩;{grind [Scp.sum,QJ]};{rw[h2];have:co F.zero.ts v=0:=rfl;grind};{rw[h3];have:F.zero.c=0:=rfl;grind}
theorem Cn.nil_of {l:List (Int×Rat)}(h:Cn l)(h0:∀ v,co l v=0):l=[]:=Cn.ext h Cn.nil (λv=>by rw[h0 v];rfl)
def Jt {L:List Lem}{unit:Int}:∀ {r:List Lem} {n:Nat} {b:Nat×Nat},r=L.drop n->(b.1≠0->∃ m,L[b.1-1]?=some m/\m.u=unit/\m.up=false)/\(b.2≠0->∃ m,L[b.2-1]?=some m/\m.u=unit/\m.up=true) ->((aD L unit n r b).1≠0->∃ m,L[(aD L unit n r b).1-1]?=some m/\m.u=unit/\m.up=false)/\((aD L unit n r b).2≠0->∃ m,L[(aD L unit n r b).2-1]?=some m/\m.u=unit/\m.up=true)
 |[],n,b,_,hb=>hb| m::r,n,b,hr,hb=>by
  have hm:L[n]?=some m:=by
   (have:(L.drop n)[0]?=some m:=by grind);grind
  have hr':r=L.drop (n+1):=by
   (have:(L.drop n).drop 1=L.drop (n+1):=by simp_all);grind
  unfold aD;refine Jt hr' ?_;split
  ·rename_i hu;split;{grind}
   ·(rename_i hup;have hup':m.up=false:=by grind);split
    all_goals grind
  omega
def Y6 (s:Scp)(unit:Int):((s.best unit).1≠0->∃ m,s.lems[(s.best unit).1-1]?=some m/\m.u=unit/\m.up=false)/\((s.best unit).2≠0->∃ m,s.lems[(s.best unit).2-1]?=some m/\m.u=unit/\m.up=true) :=
 Jt (by simp) ⟨λh=>absurd rfl h,λh=>absurd rfl h⟩
def p6 {s:Scp}{k:Nat}{unit:Int}{up:Bool}{m:Lem}(h0:k≠0)(hm:s.lems[k-1]?=some m)(hu:m.u=unit)(hp:m.up=up):s.lem k unit up=some (qW s.lems k):=by
 have hl:k-1<s.lems.length:=(wE.1 hm).1;have e:((k:Int)-1).toNat=k-1:=by omega
 rw[i4 (m:=m) oM oM (by grind),if_pos ⟨hu,hp⟩];grind [qW]
def uE {s:Scp}(hv:s.q.valid=true){k lo hi:Int}{i:Nat}{p:F}(hk:5<=k)(hk2:k<14)(hp:s.q.g.us[i]?=some (fA p)):s.fm ⟨k,i,lo,hi⟩=unF s ⟨k,i,lo,hi⟩ p (F.var (s.q.g.n+i)) (s.lem lo i false) (s.lem hi i true):=by have hl:i<s.q.g.us.length:=(wE.1 hp).1;unfold Scp.fm;rw[if_neg (by grind),if_neg (by grind)];unfold Scp.fUn;rw[if_pos ⟨by grind,by grind⟩];grind [qG]
def Bt {s:Scp}(hv:s.q.valid=true){i:Nat}{x:R}(hx:s.q.r.lo[i]?=some x):s.fm ⟨1,i,0,0⟩=some ((F.var i).sub (F.num x.q)):=by unfold Scp.fm;rw[if_neg (by grind),if_pos (by grind)];unfold Scp.fIn;rw[if_pos ⟨rfl,by grind⟩,if_pos rfl];grind
def Bu {s:Scp}(hv:s.q.valid=true){i:Nat}{x:R}(hx:s.q.r.hi[i]?=some x):s.fm ⟨2,i,0,0⟩=some ((F.num x.q).sub (F.var i)):=by unfold Scp.fm;rw[if_neg (by grind),if_pos (by grind)];unfold Scp.fIn;rw[if_pos ⟨rfl,by grind⟩,if_neg (by grind),if_pos rfl];grind
def dlt (v w:Int):Rat:=if v=w then 1 else 0
theorem uQ (v w:Int):co (F.var v).ts w=dlt v w:=by show (if v=w then 1 else 0)+(0:Rat)=_;grind [dlt]
theorem kR (q:Rat)(w:Int):co (F.num q).ts w=0:=rfl
theorem u9 {s:Scp}{r:Row}{f:F}(h:s.fm r=some f):fmD s r=f:=by grind [fmD]
def Pu {s:Scp}(hv:s.q.valid=true){i:Nat}{p:F}(hp:s.q.g.us[i]?=some (fA p)){lo hi:Nat}{l u:Rat}(hl:s.lem lo i false=some l)(hu:s.lem hi i true=some u):AV s (upM i lo hi l u)/\(∀ t,t∈upM i lo hi l u->0<=t.2)/\∀ w,SC s w (upM i lo hi l u)=- dlt (s.q.g.n+i) w:=by
 have f12:s.fm ⟨12,i,0,hi⟩=some ((F.num u).sub p):=by rw[uE hv (by decide) (by decide) hp,hu];rfl
 unfold upM;split
 ·(rename_i h;have f10:s.fm ⟨10,i,0,hi⟩=some ((F.var (s.q.g.n+i)).scale (-1)):=by rw[uE hv (by decide) (by decide) hp,hu];show (if pZ s ⟨10,i,0,hi⟩ u true=true then _ else none)=_;rw[if_pos (by grind [pZ])]);refine⟨λt ht=>?_,λt ht=>?_,λw=>?_⟩
  all_goals grind [SC,u9,vS,uQ]
 ·rename_i h1;split
  ·(rename_i h;have f8:s.fm ⟨8,i,lo,0⟩=some (p.sub (F.var (s.q.g.n+i))):=by rw[uE hv (by decide) (by decide) hp,hl];show (if onB s ⟨8,i,lo,0⟩ l true=true then _ else none)=_;rw[if_pos (by grind [onB])]);refine⟨λt ht=>?_,λt ht=>?_,λw=>?_⟩
   all_goals grind [SC,u9,uR,uQ,kR]
  ·(rename_i h2;have hu0:0<u:=by grind [jZ]);have hl0:l<0:=by grind [cL]
   have f13:s.fm ⟨13,i,lo,hi⟩=some (((p.sub (F.num l)).scale u).sub ((F.var (s.q.g.n+i)).scale (u-l))):=by rw[uE hv (by decide) (by decide) hp,hl,hu];show (if _/\_/\_/\_ then _ else none)=_;grind
   (have hpos:0<u-l:=by grind);have hinv:0<1/(u-l):=by rw[jD,Rat.one_mul];grind [Rat.inv_pos]
   (have hne:u-l≠0:=by grind);have hone:1/(u-l)*(u-l)=1:=by grind
   generalize 1/(u-l)=d at *;refine⟨λt ht=>?_,λt ht=>?_,λw=>?_⟩;{grind};{grind [Rat.le_of_lt,Rat.mul_pos]};grind [SC,u9,uR,vS,uQ,kR]
def Fo (q:Rat):0<=vI q:=by grind [vI]
def FT {s:Scp}{x:FQry}(hq:s.q=x.q)(hv:s.q.valid=true)(hx:x.small){v:Nat}(h:v<x.g.n+x.g.us.length):AV s (s.atLeastM v)/\(∀ t,t∈s.atLeastM v->0<=t.2)/\∀ w,SC s w (s.atLeastM v)=dlt v w:=by
 have hn:s.q.g.n=(x.g.n:Int):=by rw[hq];rfl
 unfold Scp.atLeastM;by_cases hlt:v<x.g.n
 ·rw[if_pos oM];obtain⟨y,hy⟩:∃ y,s.q.r.lo[v]?=some y:=zS (by rw[hq];show v<(x.r.bs.map _).length;rw[y4,hx.r.bs];exact hlt);have f1:=Bt hv hy;refine⟨λt ht=>?_,λt ht=>?_,λw=>?_⟩
  all_goals grind [SC,u9,uR,uQ,kR]
 ·(rw[if_neg oM];have e:(v:Int)-s.q.g.n=((v-x.g.n:Nat):Int):=by omega);have hp:s.q.g.us[v-x.g.n]?=some (fA x.g.us[v-x.g.n]):=by rw[hq];show (x.g.us.map fA)[v-x.g.n]?=_;grind
  (have f5:s.fm ⟨5,((v-x.g.n:Nat):Int),0,0⟩=some (F.var (s.q.g.n+(v-x.g.n:Nat))):=by rw[uE hv (by decide) (by decide) hp];rfl);rw[e];refine⟨λt ht=>?_,λt ht=>?_,λw=>?_⟩
  all_goals grind [SC,u9,uQ]
theorem CY {s:Scp}{x:FQry}(hq:s.q=x.q)(hv:s.q.valid=true)(hx:x.small){v:Nat}(h:v<x.g.n+x.g.us.length){more:List (Row×Rat)}(hm:s.atMostM v=some more):AV s more/\(∀ t,t∈more->0<=t.2)/\∀ w,SC s w more=- dlt v w:=by
 have hn:s.q.g.n=(x.g.n:Int):=by rw[hq];rfl
 unfold Scp.atMostM at hm;by_cases hlt:v<x.g.n
 ·rw[if_pos oM] at hm;cases hm;obtain⟨y,hy⟩:∃ y,s.q.r.hi[v]?=some y:=zS (by rw[hq];show v<(x.r.bs.map _).length;rw[y4,hx.r.bs];exact hlt);have f2:=Bu hv hy;refine⟨λt ht=>?_,λt ht=>?_,λw=>?_⟩
  all_goals grind [SC,u9,uR,uQ,kR]
 ·(rw[if_neg oM] at hm;have e:(v:Int)-s.q.g.n=((v-x.g.n:Nat):Int):=by omega);have hp:s.q.g.us[v-x.g.n]?=some (fA x.g.us[v-x.g.n]):=by rw[hq];show (x.g.us.map fA)[v-x.g.n]?=_;grind
  rw[e] at hm;split at hm;{cases hm};{rename_i hb;cases hm;obtain⟨b1,b2⟩:=Y6 s ((v-x.g.n:Nat):Int);have h1:(s.best ((v-x.g.n:Nat):Int)).1≠0:=λg=>hb (.inl g);have h2:(s.best ((v-x.g.n:Nat):Int)).2≠0:=λg=>hb (.inr g);obtain⟨m1,c1,c2,c3⟩:=b1 h1;obtain⟨m2,d1,d2,d3⟩:=b2 h2;have:=Pu hv hp (p6 h1 c1 c2 c3) (p6 h2 d1 d2 d3);grind}
def Vb {s:Scp}{x:FQry}(hq:s.q=x.q)(hv:s.q.valid=true)(hx:x.small):∀ {ts:List (Int×Rat)} {l l':List (Row×Rat)},(∀ t,t∈ts->0<=t.1/\t.1<((x.g.n+x.g.us.length:Nat):Int)) ->s.aboveL ts l=some l'->AV s l->Rs l->AV s l'/\Rs l'/\∀ w,SC s w l'=SC s w l+co ts w
 |[],l,l',_,h,ha,hr=>by cases h;exact⟨ha,hr,λw=>by show _=_+(0:Rat);grind⟩
 |t::r,l,l',hb,h,ha,hr=>by
  (obtain⟨h1,h2⟩:=hb t wI;obtain⟨v,hv1⟩:∃ v:Nat,t.1=v:=⟨t.1.toNat,by omega⟩;have hvl:v<x.g.n+x.g.us.length:=by omega);unfold Scp.aboveL at h
  (have hm:∀ {more:List (Row×Rat)},(if 0<yA t.2 then some (s.atLeastM t.1) else s.atMostM t.1)=some more->AV s more/\(∀ t,t∈more->0<=t.2)/\∀ w,vI t.2*SC s w more=(if t.1=w then t.2 else 0):=λ{more} g=>by rw[hv1] at g ⊢;split at g;{rename_i hs;cases g;obtain⟨g1,g2,g3⟩:=FT hq hv hx hvl;refine⟨g1,g2,λw=>?_⟩;have hp:=jZ.1 hs;rw[g3];unfold vI dlt;grind};grind [CY,jZ,vI,dlt]);split at h;{cases h};{rename_i more hmore;obtain⟨g1,g2,g3⟩:=hm hmore;obtain⟨k1,k2,k3⟩:=Vb hq hv hx (λu hu=>hb u (wJ _ hu)) h (ZD g1 ha) (ZC (Fo t.2) g2 hr);grind [nJ,co]}

theorem QG (v:Int):Cn (F.var v).ts:=Cn.nil.cons (by simp) (by grind)
theorem Z8 (q:Rat):Cn (F.num q).ts:=Cn.nil
theorem tQ {f g:F}(hf:Cn f.ts)(hg:Cn g.ts):Cn (f.sub g).ts:=Cn.mrg hf hg
def B6 {f g:F}(hf:Cn f.ts)(hg:Cn g.ts):Cn (f.add g).ts:=Cn.mrg hf hg
theorem Zo {f:F}{c:Rat}(hf:Cn f.ts):Cn (f.scale c).ts:=Cn.mrg Cn.nil hf
def DC {s:Scp}{r:Row}{p v f:F}{l u:Option Rat}(hp:Cn p.ts)(hv:Cn v.ts)(h:unF s r p v l u=some f):Cn f.ts:=by
 have two:∀ {c:Prop} [Decidable c] {x:F},(if c then some x else none)=some f->x=f:=λh=>by grind
 unfold unF at h;by_cases h5:r.k=5;{grind};rw[if_neg h5] at h;by_cases h6:r.k=6;{rw[if_pos h6] at h;grind [tQ]};rw[if_neg h6] at h;by_cases h7:r.k=7;{rw[if_pos h7] at h;rw[<-two h];exact B6 hp Cn.nil};rw[if_neg h7] at h;by_cases h8:r.k=8;{rw[if_pos h8] at h;grind [tQ]};rw[if_neg h8] at h;by_cases h9:r.k=9;{rw[if_pos h9] at h;rw[<-two h];exact Zo hp};rw[if_neg h9] at h;by_cases h10:r.k=10;{rw[if_pos h10] at h;rw[<-two h];exact Zo hv};rw[if_neg h10] at h;by_cases h11:r.k=11;{rw[if_pos h11] at h;grind [tQ,Z8]};rw[if_neg h11] at h;by_cases h12:r.k=12;{rw[if_pos h12] at h;grind [tQ,Z8]};rw[if_neg h12] at h;by_cases h13:r.k=13;{rw[if_pos h13] at h;grind [tQ,Zo,Z8]};grind
theorem Mq {s:Scp}{x:FQry}(hq:s.q=x.q)(hx:x.ok){r:Row}{f:F}(h:s.fIn r=some f):Cn f.ts:=by unfold Scp.fIn at h;by_cases h0:r.plain=true/\0<=r.i;{rw[if_pos h0] at h;by_cases h1:r.k=1;{rw[if_pos h1] at h;obtain⟨y,_,rfl⟩:=pB.1 h;grind [tQ,QG,Z8]};rw[if_neg h1] at h;by_cases h2:r.k=2;{rw[if_pos h2] at h;obtain⟨y,_,rfl⟩:=pB.1 h;grind [tQ,Z8,QG]};rw[if_neg h2] at h;by_cases h3:r.k=3;{rw[if_pos h3] at h;obtain⟨y,hy,rfl⟩:=pB.1 h;have hm:=z3 hy;rw[hq] at hm;obtain⟨g,hg,rfl⟩:=yZ.1 hm;rw[qG];exact B6 (hx.rows g hg).cn Cn.nil};rw[if_neg h3] at h;by_cases h4:r.k=4;{rw[if_pos h4] at h;grind [tQ,QG,Z8,Zo]};grind};grind
def Lb {s:Scp}{x:FQry}(hq:s.q=x.q)(hx:x.ok)(r:Row)(f:F)(h:s.fm r=some f):Cn f.ts:=by unfold Scp.fm at h;split at h;{cases h};{split at h;{grind [Mq]};{unfold Scp.fUn at h;split at h;{split at h;{rename_i p hp;rw[hq] at hp;have hp':(x.g.us.map fA)[r.i.toNat]?=some p:=hp;rw[dH] at hp';obtain⟨g,hg,rfl⟩:=pB.1 hp';rw[qG] at h;exact DC (hx.us _ g hg).cn (QG _) h};grind};grind}}
theorem F.wf.sub {f g:F}{n:Int}(hf:f.wf n)(hg:g.wf n):(f.sub g).wf n:=hf.merge hg
def VU {s:Scp}{x:FQry}(hq:s.q=x.q)(hx:x.ok){l:List (Row×Rat)}{f:F}{N:Int}(hr:Rs l)(ha:AV s l)(hf:f.wf N)(hN:N<=9223372036854775807)(hc:∀ w,co f.ts w=SC s w l)(hk:SK s l<=f.c):s.proves (fA f) (mR l)=true:=by obtain⟨g,h1,h2,h3,h4⟩:=DJ hr ha;have hg:=h4 (Lb hq hx);have hts:(f.sub g).ts=[]:=(tQ hf.cn hg).nil_of (λw=>by grind [uR]);have hcc:(f.sub g).c=f.c+g.c * -1:=rfl;unfold Scp.proves;rw[qG,h1,hts,(hf.mono hN).valid,decide_eq_true (p:=(0:Int)<=yA (f.sub g).c) (by grind [cL])];rfl
def Ve (q:Qry) (path:List Dec) (L:List Lem):Prop:=∀ i m,L[i]?=some m->(⟨q,path,L.take i⟩:Scp).lemB m=true
def Bl {q:Qry}{path:List Dec}{L:List Lem}{m:Lem}(h:Ve q path L)(hm:(⟨q,path,L⟩:Scp).lemB m=true):Ve q path (L++[m]):=λi n hn=>by by_cases hi:i<L.length;{rw[JJ hi] at hn;rw[HW oM];exact h i n hn};grind
def Scp.onU (s:Scp) (j:Int):Bool:=s.dcd 1 j || (decide (0<(s.best j).1)&&decide (0<=yA (qW s.lems (s.best j).1)))
def Scp.offU (s:Scp) (j:Int):Bool:=s.dcd 2 j || (decide (0<(s.best j).2)&&decide (yA (qW s.lems (s.best j).2)<=0))







end Go.Proofs.YtaeaffgjdcigoaaGreat
