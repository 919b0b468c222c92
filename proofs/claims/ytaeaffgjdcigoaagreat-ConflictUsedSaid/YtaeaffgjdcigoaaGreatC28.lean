/- A part of the proof: SpC, SpD, SpE, SpF, SpG, SpH, SpI, SpJ, SpK, SpL, SpM, SpN. -/
import Derived.Test.YtaeaffgjdcigoaaGreatC27
set_option linter.all false
namespace Go.Proofs.YtaeaffgjdcigoaaGreat
open Go
structure F.wf (f:F) (n:Int):Prop where
 cn:Cn f.ts
 v:∀ t,t∈f.ts->0<=t.1/\t.1<n
theorem F.wf.merge {f g:F}{c:Rat}{n:Int}(hf:f.wf n)(hg:g.wf n):(f.merge g c).wf n:=⟨hf.cn.mrg hg.cn,fun t ht=>by
 rcases fQ ht with⟨u,hu,e⟩|⟨u,hu,e⟩;{rw[<-e];exact hf.v u hu}
 ·rw[<-e];exact hg.v u hu⟩
theorem F.wf.num (q:Rat)(n:Int):(F.num q).wf n:=⟨Cn.nil,fun t ht=>absurd ht (by simp[F.num])⟩
theorem F.wf.var {v n:Int}(h1:0<=v)(h2:v<n):(F.var v).wf n:=⟨Cn.nil.cons (by simp) (by show (1:Rat)≠0;decide),fun t ht=>by
 have:t=(v,1):=by simpa[F.var] using ht
 rw[this];exact⟨h1,h2⟩⟩
theorem F.wf.zero0 (n:Int):(⟨[],0⟩:F).wf n:=⟨Cn.nil,fun t ht=>absurd ht (by simp)⟩
theorem F.wf.scale {f:F}{c:Rat}{n:Int}(hf:f.wf n):(f.scale c).wf n:=F.wf.merge (F.wf.zero0 n) hf
theorem F.wf.add {f g:F}{n:Int}(hf:f.wf n)(hg:g.wf n):(f.add g).wf n:=hf.merge hg
theorem F.wf.mono {f:F}{n m:Int}(hf:f.wf n)(h:n<=m):f.wf m:=⟨hf.cn,fun t ht=>⟨(hf.v t ht).1,by have:=(hf.v t ht).2;omega⟩⟩
theorem zH3 (raw:List UInt8)(N:Nat):∀ (n v:Nat) (f:F) (a:Nat),v+n<=N->f.wf N->(tK raw n v f a).1.wf N
 |0,_,_,_,_,h=>h| n+1,v,f,a,hv,h=>by unfold tK;split;{exact zH3 raw N n _ _ _ oM (h.add (F.wf.var oM oM).scale)};{exact zH3 raw N n _ _ _ oM h}
theorem zNC (raw:List UInt8)(n a:Nat):(fdF raw n a).1.wf n:=zH3 raw n n 0 _ _ oM (F.wf.num _ _)
theorem zI4 {raw:List UInt8}{d:Nat}:∀ {n v a:Nat} {i:Nat} {f:F},(fdL raw d n v a).1[i]?=some f->f.wf ((v+i*d:Nat):Int)
 |0,_,_,i,f,h=>by simp[fdL] at h| n+1,v,a,0,f,h=>by simp only[fdL,lU,p7] at h;rw[<-h,tJ,alT5];exact zNC raw v a| n+1,v,a,i+1,f,h=>by simp only[fdL,tH] at h;have:=zI4 h;have e:(i+1)*d=i*d+d:=Nat.succ_mul i d;rw[show v+(i+1)*d=v+d+i*d by omega];exact this
def qO (L:List Lem) (k:Nat):Rat:=((L[k-1]?).map fun m=>m.v.q).getD 0
def bN (L:List Lem) (unit:Int):Nat->List Lem->Nat×Nat->Nat×Nat
 |_,[],b=>b| n,m::r,b=>bN L unit (n+1) r (if m.u=unit then (if m.up=true then (if b.2=0\/uD m.v.q (qO L b.2)<0 then (b.1,n+1) else b) else (if b.1=0\/0<uD m.v.q (qO L b.1) then (n+1,b.2) else b)) else b)
def Scp.best (s:Scp) (unit:Int):Nat×Nat:=bN s.lems unit 0 s.lems (0,0)
theorem zCW {L:List Lem}{unit:Int}:∀ {r:List Lem} {n:Nat} {b:Nat×Nat},r=L.drop n->(∀ k,k=b.1\/k=b.2->k≠0->∃ m,L[k-1]?=some m/\m.u=unit) ->∀ k,k=(bN L unit n r b).1\/k=(bN L unit n r b).2->k≠0->∃ m,L[k-1]?=some m/\m.u=unit
 |[],n,b,_,hb=>hb| m::r,n,b,hr,hb=>by
  have hm:L[n]?=some m:=by
   (have:(L.drop n)[0]?=some m:=by rw[<-hr];rfl);simpa using this
  have hr':r=L.drop (n+1):=by
   (have:(L.drop n).drop 1=L.drop (n+1):=by rw[i3]);rw[<-this,<-hr];rfl
  unfold bN;refine zCW hr' fun k hk hk0=>?_;split at hk;{rename_i hu;have new:∃ m,L[n+1-1]?=some m/\m.u=unit:=⟨m,hm,hu⟩;split at hk;{split at hk;{rcases hk with rfl|rfl;{exact hb _ (.inl rfl) hk0};{exact new}};{exact hb k hk hk0}};{split at hk;{rcases hk with rfl|rfl;{exact new};{exact hb _ (.inr rfl) hk0}};{exact hb k hk hk0}}};{exact hb k hk hk0}
theorem dU {s:Scp}{unit:Int}{k:Nat}(hk:k=(s.best unit).1\/k=(s.best unit).2)(h0:k≠0):∃ m,s.lems[k-1]?=some m/\m.u=unit :=
 zCW (by simp) (fun k hk hk0=>by rcases hk with rfl|rfl <;> exact absurd rfl hk0) k hk h0
def xT (a b:List (Row×Rat)) (c:Rat):List (Row×Rat):=b.foldl (fun a m=>plMq a m.1 (m.2*c)) a
def Scp.atLeastM (s:Scp) (v:Int):List (Row×Rat):=if v<s.q.g.n then [(⟨1,v,0,0⟩,1)] else [(⟨5,v-s.q.g.n,0,0⟩,1)]
def upM (j:Int) (lo hi:Nat) (l u:Rat):List (Row×Rat) :=
 if z4 u<=0 then [(⟨10,j,0,hi⟩,1)]
 else if 0<=z4 l then [(⟨8,j,lo,0⟩,1),(⟨12,j,0,hi⟩,1)]
 else [(⟨12,j,0,hi⟩,(1/(u-l))*u),(⟨13,j,lo,hi⟩,1/(u-l))]
def Scp.atMostM (s:Scp) (v:Int):Option (List (Row×Rat)) :=
 if v<s.q.g.n then some [(⟨2,v,0,0⟩,1)]
 else if (s.best (v-s.q.g.n)).1=0\/(s.best (v-s.q.g.n)).2=0 then none
 else some (upM (v-s.q.g.n) (s.best (v-s.q.g.n)).1 (s.best (v-s.q.g.n)).2 (qO s.lems (s.best (v-s.q.g.n)).1) (qO s.lems (s.best (v-s.q.g.n)).2))
def Scp.aboveL (s:Scp):List (Int×Rat)->List (Row×Rat)->Option (List (Row×Rat))
 |[],l=>some l
 |t::r,l=>match (if 0<z4 t.2 then some (s.atLeastM t.1) else s.atMostM t.1) with
  |none=>none| some more=>s.aboveL r (xT l more (vK t.2))
def Scp.above (s:Scp) (f:F):Option (Rat×List (Row×Rat)):=(s.aboveL f.ts []).map fun l=>((f.sub (s.sum (mR l)).2).c,l)
def bndL (j:Int) (x y:Option (Rat×List (Row×Rat))):List Lem :=
 (match x with
 |some v=>[⟨j,false,zJ v.1,mR v.2⟩]| none=>[])++(match y with
 |some w=>[⟨j,true,zJ (-w.1),mR w.2⟩]| none=>[])
def bndG (q:Qry) (path:List Dec):List A->Nat->List Lem->List Lem
 |[],_,L=>L| p::r,j,L=>bndG q path r (j+1) (L++bndL j ((⟨q,path,L⟩:Scp).above p.f) ((⟨q,path,L⟩:Scp).above (p.f.scale (-1))))
def Scp.bounded (s:Scp):Scp:=⟨s.q,s.path,bndG s.q s.path s.q.g.us 0 s.lems⟩
inductive Wt (s:Scp):List (Row×Rat)->Nat->Prop
 |nil:Wt s [] 0
 |cons {r q l k g N} (hk:Fits k q) (hg:∀ f,s.fm r=some f->f.fl g 3000) (h:Wt s l N):Wt s ((r,q)::l) (k+g+5+N)
theorem Wt.to {s l N M}(h:Wt s l N)(e:N=M):Wt s l M:=e ▸ h
theorem Wt.mem {s:Scp}:∀ {l:List (Row×Rat)} {N:Nat},Wt s l N->∀ t,t∈l->Fits N t.2
 |_,_,.nil,t,ht=>absurd ht (by simp)| _,_,.cons hk hg h,t,ht=>by rcases yI.1 ht with rfl|ht;{exact hk.mono oM};{exact (h.mem t ht).mono oM}
theorem Wt.plM {s:Scp}{r:Row}{q:Rat}{k g:Nat}(hk:Fits k q)(hg:∀ f,s.fm r=some f->f.fl g 3000):∀ {l:List (Row×Rat)} {N:Nat},Wt s l N->∃ M,M<=k+g+5+N/\Wt s (plM r q l) M
 |_,_,.nil=>⟨_,zZ _,.cons hk hg .nil⟩| _,_,.cons (r:=r') (q:=q') (l:=l) (k:=k') (g:=g') (N:=N') hk' hg' h=>by unfold Go.Proofs.YtaeaffgjdcigoaaGreat.plM;split;{obtain⟨M,h1,h2⟩:=Wt.plM hk hg h;exact⟨_,by omega,.cons hk' hg' h2⟩};{split;{rename_i e;have e':r'=r:=e;rw[e'] at hg';refine⟨_,?_,.cons (k:=k'+k+1) ((qT hk' hk).mono oM) hg' h⟩;omega};{exact⟨_,by omega,.cons hk hg (.cons hk' hg' h)⟩}}
theorem Wt.plMq {s:Scp}{r:Row}{q:Rat}{k g:Nat}(hk:Fits k q)(hg:∀ f,s.fm r=some f->f.fl g 3000){l:List (Row×Rat)}{N:Nat}(h:Wt s l N):∃ M,M<=k+g+5+N/\Wt s (plMq l r q) M:=by unfold Go.Proofs.YtaeaffgjdcigoaaGreat.plMq;split;{exact⟨N,by omega,h⟩};{exact Wt.plM hk hg h}
theorem Wt.merge {s:Scp}{c:Rat}{kc:Nat}(hc:Fits kc c):∀ {b:List (Row×Rat)} {B:Nat} {a:List (Row×Rat)} {N:Nat},Wt s b B->Wt s a N->∃ M,M<=B+(kc+2)*b.length+N/\Wt s (xT a b c) M
 |_,_,a,N,.nil,ha=>⟨N,by simp,ha⟩| _,_,a,N,.cons (r:=r) (q:=q) (l:=l) (k:=k) (g:=g) (N:=B) hk hg h,ha=>by obtain⟨M1,h1,h2⟩:=Wt.plMq (q:=q*c) (y6 hk hc) hg ha;obtain⟨M,g1,g2⟩:=Wt.merge hc h h2;refine⟨M,?_,g2⟩;rw[kI,Nat.mul_succ];omega
theorem zRH (r:Row)(q:Rat)(l):(plMq l r q).length<=l.length+1:=by unfold plMq;split;{omega};{exact zHV r q l}
theorem nP (c:Rat):∀ (b a:List (Row×Rat)),(xT a b c).length<=a.length+b.length
 |[],a=>zZ _| t::b,a=>by have h1:=nP c b (plMq a t.1 (t.2*c));have h2:=zRH t.1 (t.2*c) a;have e:xT a (t::b) c=xT (plMq a t.1 (t.2*c)) b c:=rfl;rw[e,kI];omega
theorem Wt.sumL {s:Scp}:∀ {l:List (Row×Rat)} {N:Nat},Wt s l N->∀ {acc f:F} {a n:Nat},acc.fl a n->sumL s acc (mR l)=some f->f.fl (a+N) (n+3000*l.length)
 |_,_,.nil,acc,f,a,n,ha,h=>by cases h;exact ha
 |_,_,.cons (r:=r) (q:=q) (l:=l) (k:=k) (g:=g) (N:=B) hk hg hw,acc,f,a,n,ha,h=>by have e:mR ((r,q)::l)=⟨r,zJ q⟩::mR l:=rfl;rw[e] at h;unfold Go.Proofs.YtaeaffgjdcigoaaGreat.sumL at h;dsimp only at h;split at h;{cases h};{rename_i f0 hf0;rw[z6] at h;have:=hw.sumL (ha.add ((hg f0 hf0).scale hk)) h;exact this.mono oM (by rw[kI,Nat.mul_succ];omega)}
theorem Wt.sum {s:Scp}{l:List (Row×Rat)}{N:Nat}(h:Wt s l N):(s.sum (mR l)).2.fl (1+N) (3000*l.length):=by unfold Scp.sum;split;{exact zero_fl.mono oM oM};{split;{exact zero_fl.mono oM oM};{rename_i f hf;exact (h.sumL zero_fl hf).mono oM oM}}
def LB (K:Nat->Nat) (L:List Lem):Prop:=∀ m,m∈L->∃ i:Nat,m.u=i/\Fits (K i) m.v.q
theorem zS8 {K:Nat->Nat}{s:Scp}(hK:∀ i,1<=K i)(h:LB K s.lems)(k:Int)(i:Nat)(up:Bool):Fits (K i) ((s.lem k i up).getD 0):=by
 unfold Scp.lem;split
 ·split
  ·rename_i m hm;split
   ·(rename_i e;obtain⟨i',e',hf⟩:=h m (yA hm);have:i'=i:=by have:=e.1;omega);rw[this] at hf
    exact hf
   {exact uK (hK i)}
  {exact uK (hK i)}
 {exact uK (hK i)}
theorem zE7 {K:Nat->Nat}{s:Scp}(h:LB K s.lems){i k:Nat}(hk:k=(s.best i).1\/k=(s.best i).2)(h0:k≠0):Fits (K i) (qO s.lems k):=by
 obtain⟨m,hm,hu⟩:=dU hk h0;obtain⟨i',e',hf⟩:=h m (yA hm);have:i'=i:=by omega
 rw[this] at hf;unfold qO;rw[hm];exact hf
theorem zW5 {s:Scp}{x:FQry}(hq:s.q=x.q)(hx:x.small){r:Row}(hr:r.k=1\/r.k=2){f:F}(h:s.fm r=some f):f.fl 6 3000:=by
 unfold Scp.fm at h;split at h;{cases h};rw[if_pos oM] at h;unfold Scp.fIn at h;split at h
 ·split at h
  ·cases hy:s.q.r.lo[r.i.toNat]? with
   |none=>rw[hy] at h;cases h
   |some y =>
    rw[hy] at h;cases h;have hm:=yA hy;rw[hq] at hm;obtain⟨b,hb,rfl⟩:=y8.1 hm;dsimp only;rw[z6];exact ((gL r.i).sub (kW (hx.r.bf b hb).1)).mono oM oM
  ·split at h
   ·cases hy:s.q.r.hi[r.i.toNat]? with
    |none=>rw[hy] at h;cases h
    |some y =>
     rw[hy] at h;cases h;have hm:=yA hy;rw[hq] at hm;obtain⟨b,hb,rfl⟩:=y8.1 hm;dsimp only;rw[z6];exact ((kW (hx.r.bf b hb).2).sub (gL r.i)).mono oM oM
   {omega}
 {cases h}
theorem zUI {s:Scp}{r:Row}{p v:F}{l u:Option Rat}{K:Nat}{f:F}(hk:1<=K)(hp:p.fl 43 7)(hv:v.fl 1 1)(hl:Fits K (l.getD 0))(hu:Fits K (u.getD 0))(h:unF s r p v l u=some f):f.fl (4*K+60) 3000:=by
 unfold unF at h;generalize l.getD 0=lq at *
 generalize u.getD 0=uq at *
 have two:∀ {c:Prop} [Decidable c] {x:F},(if c then some x else none)=some f->x=f:=fun h=>by split at h;{exact vN h};{cases h}
 split at h;{rw[<-two h];exact hv.mono oM oM};split at h;{rw[<-two h];exact (hv.sub hp).mono oM oM};split at h;{rw[<-two h];exact (hp.add zero_fl).mono oM oM};split at h;{rw[<-two h];exact (hp.sub hv).mono oM oM};split at h;{rw[<-two h];exact (hp.scale wZ).mono oM oM};split at h;{rw[<-two h];exact (hv.scale wZ).mono oM oM};split at h;{rw[<-two h];exact (hp.sub (kW hl)).mono oM oM};split at h;{rw[<-two h];exact ((kW hu).sub hp).mono oM oM};split at h;{rw[<-two h];exact (((hp.sub (kW hl)).scale hu).sub (hv.scale (uC hu hl))).mono oM oM};{cases h}
theorem zW3 {s:Scp}{x:FQry}{K:Nat->Nat}(hq:s.q=x.q)(hx:x.small)(hK:∀ i,1<=K i)(hL:LB K s.lems){r:Row}{i:Nat}(hr:5<=r.k)(hi:r.i=i){f:F}(h:s.fm r=some f):f.fl (4*K i+60) 3000:=by
 unfold Scp.fm at h;split at h;{cases h};rw[if_neg oM] at h;unfold Scp.fUn at h;split at h
 ·cases hy:s.q.g.us[r.i.toNat]? with
  |none=>rw[hy] at h;cases h
  |some p =>
   rw[hy] at h;have hm:=yA hy;rw[hq] at hm;obtain⟨b,hb,rfl⟩:=y8.1 hm;rw[hi] at h;dsimp only at h;rw[kY] at h;exact zUI (hK i) (hx.g.uf b hb) (gL _) (zS8 hK hL _ _ _) (zS8 hK hL _ _ _) h
 {cases h}
def cst (K:Nat->Nat) (n v:Nat):Nat:=if v<n then 60 else 13*K (v-n)+230
theorem zFD {s:Scp}{r:Row}{g:Nat}(hg:∀ f,s.fm r=some f->f.fl g 3000):Wt s [(r,1)] (g+6):=(Wt.cons fits_one hg .nil).to oM
theorem zRQ {s:Scp}{x:FQry}{K:Nat->Nat}(hq:s.q=x.q)(hx:x.small)(hK:∀ i,1<=K i)(hL:LB K s.lems)(v:Nat):∃ B,B+48*(s.atLeastM v).length<=cst K x.g.n v/\Wt s (s.atLeastM v) B:=by
 have hn:s.q.g.n=(x.g.n:Int):=by rw[hq];rfl
 unfold Scp.atLeastM cst;rw[hn];by_cases h:v<x.g.n;{rw[if_pos oM,if_pos h];exact⟨_,by simp,zFD fun f hf=>zW5 hq hx (.inl rfl) hf⟩};{rw[if_neg oM,if_neg h];exact⟨_,by simp;omega,zFD fun f hf=>zW3 (i:=v-x.g.n) hq hx hK hL (by show (5:Int)<=5;decide) (by show (v:Int)-x.g.n=_;omega) hf⟩}
theorem zZ2 {s:Scp}{x:FQry}{K:Nat->Nat}(hq:s.q=x.q)(hx:x.small)(hK:∀ i,1<=K i)(hL:LB K s.lems){i lo hi:Nat}{l u:Rat}(hl:Fits (K i) l)(hu:Fits (K i) u):∃ B,B+48*(upM i lo hi l u).length<=13*K i+230/\Wt s (upM i lo hi l u) B:=by
 have hg:∀ (k lo hi:Int),5<=k->∀ f,s.fm ⟨k,i,lo,hi⟩=some f->f.fl (4*K i+60) 3000:=fun k lo hi hk f hf=>zW3 hq hx hK hL hk rfl hf;have h1:=hK i;have hs:=cT (uC hu hl);have hd:Fits (2*K i+1) (1/(u-l)):=by
  (have e:1/(u-l)=(u-l)⁻¹:=by rw[f9,zB8]);rw[e]
  exact hs.mono oM
 unfold upM;split;{exact⟨_,by simp;omega,zFD (hg _ _ _ (by decide))⟩};{split;{exact⟨_,by simp;omega,Wt.cons fits_one (hg _ _ _ (by decide)) (zFD (hg _ _ _ (by decide)))⟩};{exact⟨_,by simp;omega,Wt.cons ((y6 hd hu).mono (k:=_) (m:=3*K i+2) oM) (hg _ _ _ (by decide)) (Wt.cons hd (hg _ _ _ (by decide)) .nil)⟩}}
theorem zOD {s:Scp}{x:FQry}{K:Nat->Nat}(hq:s.q=x.q)(hx:x.small)(hK:∀ i,1<=K i)(hL:LB K s.lems)(v:Nat){more:List (Row×Rat)}(h:s.atMostM v=some more):∃ B,B+48*more.length<=cst K x.g.n v/\Wt s more B:=by
 have hn:s.q.g.n=(x.g.n:Int):=by rw[hq];rfl
 unfold Scp.atMostM at h;unfold cst;rw[hn] at h;by_cases hv:v<x.g.n;{rw[if_pos oM] at h;rw[if_pos hv];cases h;exact⟨_,by simp,zFD fun f hf=>zW5 hq hx (.inr rfl) hf⟩}
 ·(rw[if_neg oM] at h;rw[if_neg hv];have e:(v:Int)-x.g.n=((v-x.g.n:Nat):Int):=by omega);rw[e] at h
  split at h;{cases h};{rename_i hb;cases h;exact zZ2 hq hx hK hL (zE7 hL (.inl rfl) (fun g=>hb (.inl g))) (zE7 hL (.inr rfl) (fun g=>hb (.inr g)))}
def rD (K:Nat->Nat) (n:Nat):Nat->Nat
 |0=>0| v+1=>rD K n v+cst K n v
theorem zAU {K : Nat → Nat} {n a b : Nat} (h : a ≤ b) : rD K n a ≤ rD K n b := by
  induction b with
  | zero => have : a = 0 := by omega
            rw [this]; exact zZ _
  | succ b ih =>
    by_cases e : a = b + 1
    · rw [e]; exact zZ _
    · have := ih oM
      show _ ≤ rD K n b + cst K n b
      omega
theorem zAX {s:Scp}{x:FQry}{K:Nat->Nat}(hq:s.q=x.q)(hx:x.small)(hK:∀ i,1<=K i)(hL:LB K s.lems){hi:Nat}:∀ {ts:List (Int×Rat)} {l l':List (Row×Rat)} {N lo:Nat},Cn ts->(∀ t,t∈ts->(lo:Int)<=t.1/\t.1<hi)->(∀ t,t∈ts->Fits 46 t.2)->lo<=hi->Wt s l N->s.aboveL ts l=some l'->∃ M,M+rD K x.g.n lo<=N+rD K x.g.n hi/\Wt s l' M
 |[],l,l',N,lo,_,_,_,hlh,hw,h=>by cases h;exact⟨N,by have:=zAU (K:=K) (n:=x.g.n) hlh;omega,hw⟩
 |t::r,l,l',N,lo,hc,hv,hf,hlh,hw,h=>by
  (obtain⟨h1,h2⟩:=hv t xM;obtain⟨v,hv1⟩:∃ v:Nat,t.1=v:=⟨t.1.toNat,by omega⟩;unfold Scp.aboveL at h;have hm:∀ {more:List (Row×Rat)},(if 0<z4 t.2 then some (s.atLeastM t.1) else s.atMostM t.1)=some more->∃ B,B+48*more.length<=cst K x.g.n v/\Wt s more B:=fun {more} g=>by rw[hv1] at g;split at g;{cases g;exact zRQ hq hx hK hL v};{exact zOD hq hx hK hL v g});split at h;{cases h}
  ·(rename_i more hmore;obtain⟨B,b1,b2⟩:=hm hmore;obtain⟨M1,m1,m2⟩:=Wt.merge (jU (hf t xM)) b2 hw;have hlo:∀ u,u∈r->((v+1:Nat):Int)<=u.1/\u.1<hi:=fun u hu=>by have g1:=hc.lt u hu;have g2:=(hv u (xN _ hu)).2;omega);obtain⟨M,k1,k2⟩:=zAX hq hx hK hL (hi:=hi) (lo:=v+1) hc.tail hlo (fun u hu=>hf u (xN _ hu)) oM m2 h;refine⟨M,?_,k2⟩;have c1:=zAU (K:=K) (n:=x.g.n) (a:=lo) (b:=v) oM;have c2:rD K x.g.n (v+1)=rD K x.g.n v+cst K x.g.n v:=rfl;have c3:(46+2)*more.length=48*more.length:=rfl;omega
theorem zUH (j:Int)(lo hi:Nat)(l u:Rat):(upM j lo hi l u).length<=2:=by unfold upM;split <;> (try split) <;> simp
theorem zJ2 {s:Scp}{v:Int}{more}(h:s.atMostM v=some more):more.length<=2:=by unfold Scp.atMostM at h;split at h;{cases h;simp};{split at h;{cases h};{cases h;exact zUH _ _ _ _ _}}
theorem zPP (s:Scp)(v:Int):(s.atLeastM v).length<=2:=by unfold Scp.atLeastM;split <;> simp
theorem i5 {s:Scp}:∀ {ts:List (Int×Rat)} {l l':List (Row×Rat)},s.aboveL ts l=some l'->l'.length<=l.length+2*ts.length
 |[],l,l',h=>by cases h;simp
 |t::r,l,l',h=>by
  unfold Scp.aboveL at h;split at h;{cases h}
  ·(rename_i more hmore;have h1:more.length<=2:=by split at hmore;{cases hmore;exact zPP _ _};{exact zJ2 hmore});have h2:=nP (vK t.2) more l;have h3:=i5 h;rw[kI];omega
theorem zK0 {s:Scp}{x:FQry}{K:Nat->Nat}(hq:s.q=x.q)(hx:x.small)(hK:∀ i,1<=K i)(hL:LB K s.lems){f:F}{hi:Nat}(hf:f.fl 46 7)(hw:f.wf hi){v:Rat×List (Row×Rat)}(h:s.above f=some v):Fits (49+rD K x.g.n hi) v.1/\(∀ t,t∈v.2->Fits (rD K x.g.n hi) t.2)/\v.2.length<=14:=by
 unfold Scp.above at h;cases hl:s.aboveL f.ts [] with
 |none=>rw[hl] at h;cases h
 |some l =>
  rw[hl] at h;cases h;obtain⟨M,h1,h2⟩:=zAX hq hx hK hL (hi:=hi) (lo:=0) hw.cn (fun t ht=>by have:=hw.v t ht;omega) hf.t (xD _) .nil hl;have h3:rD K x.g.n 0=0:=rfl;have h4:=i5 hl;have h5:=hf.len;refine⟨((hf.sub h2.sum).c).mono oM,fun t ht=>(h2.mem t ht).mono oM,?_⟩;show l.length<=14;simp only[sZ] at h4;omega
def KK:Nat->Nat
 |0=>230| 1=>3450| 2=>48530| _=>679650
theorem zNI (i:Nat):1<=KK i:=by unfold KK;split <;> decide
theorem zXC {n j:Nat}(h1:1<=n)(h2:n<=3)(h3:j<=3):49+rD KK n (n+j)<=KK j:=by
 have:∀ n:Fin 4,∀ j:Fin 4,1<=n.val->49+rD KK n.val (n.val+j.val)<=KK j.val:=by decide +kernel
 exact this ⟨n,by omega⟩ ⟨j,by omega⟩ h1
theorem zUE (i:Nat):KK i<=679650:=by unfold KK;split <;> decide
structure Lok (L:List Lem) (j:Nat):Prop where
 lb:LB KK L
 len:L.length<=2*j
 pf:∀ m,m∈L->Msz 679650 m.pf/\m.pf.length<=14
 v:∀ m,m∈L->∃ q,m.v=zJ q
theorem zY7 {l:List (Row×Rat)}{k:Nat}(h:∀ t,t∈l->Fits k t.2)(hl:l.length<=14):Msz k (mR l):=⟨by rw[j1];omega,fun m hm=>by obtain⟨t,ht,rfl⟩:=y8.1 hm;exact zU (h t ht)⟩
theorem zSA {x:FQry}(hx:x.small)(hwf:∀ (i:Nat) (f:F),x.g.us[i]?=some f->f.wf ((x.g.n+i:Nat):Int)){path:List Dec}{j:Nat}{f:F}(hfj:x.g.us[j]?=some f){L:List Lem}(h:Lok L j):Lok (L++bndL j ((⟨x.q,path,L⟩:Scp).above f) ((⟨x.q,path,L⟩:Scp).above (f.scale (-1)))) (j+1)/\(∀ v,(⟨x.q,path,L⟩:Scp).above (f.scale (-1))=some v->Fits (2^20) v.1):=by
 obtain⟨hlen,he⟩:=wH.1 hfj;have hj:j<=3:=by have:=hx.g.us;omega
 have hf:=hx.g.uf _ (yA hfj);have hw:=hwf j f hfj;have ok:=zXC hx.g.n1 hx.g.n2 hj;have kl:=zUE j;have key:∀ {f:F} {v:Rat×List (Row×Rat)},f.fl 46 7->f.wf ((x.g.n+j:Nat):Int)->(⟨x.q,path,L⟩:Scp).above f=some v->Fits (KK j) v.1/\Msz 679650 (mR v.2)/\(mR v.2).length<=14:=fun hf hw hv=>by obtain⟨g1,g2,g3⟩:=zK0 (s:=⟨x.q,path,L⟩) rfl hx zNI h.lb hf hw hv;exact⟨g1.mono ok,zY7 (fun t ht=>(g2 t ht).mono oM) g3,by rw[j1];exact g3⟩
 have kx:=fun v hv=>key (v:=v) (hf.mono (by decide) (by decide)) hw hv;have ky:=fun v hv=>key (v:=v) ((hf.scale wZ).mono (by decide) (by decide)) hw.scale hv;refine⟨?_,fun v hv=>(ky v hv).1.mono (vD kl (by decide))⟩;generalize (⟨x.q,path,L⟩:Scp).above f=X at *
 generalize (⟨x.q,path,L⟩:Scp).above (f.scale (-1))=Y at *
 have mem:∀ m,m∈bndL j X Y->m.u=(j:Int)/\Fits (KK j) m.v.q/\Msz 679650 m.pf/\m.pf.length<=14/\∃ q,m.v=zJ q:=fun m hm=>by
  unfold bndL at hm;rcases vX.1 hm with hm|hm
  ·cases X with
   |none=>exact absurd hm (by simp)| some v =>
    (have:m=⟨j,false,zJ v.1,mR v.2⟩:=by simpa using hm);obtain⟨g1,g2,g3⟩:=kx v rfl
    rw[this];exact⟨rfl,by show Fits _ (zJ v.1).q;rw[z6];exact g1,g2,g3,_,rfl⟩
  ·cases Y with
   |none=>exact absurd hm (by simp)| some v =>
    (have:m=⟨j,true,zJ (-v.1),mR v.2⟩:=by simpa using hm);obtain⟨g1,g2,g3⟩:=ky v rfl
    rw[this];exact⟨rfl,by show Fits _ (zJ (-v.1)).q;rw[z6];exact qD g1,g2,g3,_,rfl⟩
 refine⟨fun m hm=>?_,?_,fun m hm=>?_,fun m hm=>?_⟩;{rcases vX.1 hm with hm|hm;{exact h.lb m hm};{exact⟨j,(mem m hm).1,(mem m hm).2.1⟩}}
 ·(rw[qZ];have:(bndL j X Y).length<=2:=by unfold bndL;cases X <;> cases Y <;> simp);have:=h.len
  omega
 {rcases vX.1 hm with hm|hm;{exact h.pf m hm};{exact⟨(mem m hm).2.2.1,(mem m hm).2.2.2.1⟩}};{rcases vX.1 hm with hm|hm;{exact h.v m hm};{exact (mem m hm).2.2.2.2}}
theorem zTH (raw:List UInt8)(a:Nat)(i:Nat)(f:F)(h:(fdG raw a).1.us[i]?=some f):f.wf (((fdG raw a).1.n+i:Nat):Int):=by have:=zI4 (raw:=raw) (d:=1) h;rw[pD] at this;exact this
theorem zWM {N:Int}:∀ {ts:List (Int×Rat)} {p:Int},Cn ts->(∀ t,t∈ts->p<t.1/\0<=t.1/\t.1<N)->vT N p (tR ts)=true
 |[],_,_,_=>rfl| t::r,p,hc,h=>by obtain⟨h1,h2,h3⟩:=h t xM;have ih:=zWM (N:=N) (p:=t.1) hc.tail (fun u hu=>⟨hc.lt u hu,(h u (xN _ hu)).2⟩);show (decide (0<=t.1)&&decide (t.1<N)&&decide (p<t.1)&&decide ((zJ t.2).q≠0)&&(zJ t.2).ok&&vT N t.1 (tR r))=true;rw[ih,z6,pO,decide_eq_true h1,decide_eq_true h2,decide_eq_true h3,decide_eq_true hc.hd];rfl
theorem F.wf.valid {f:F}{n:Int}(h:f.wf n):(fA f).valid n=true:=by have h1:=zWM (N:=n) (p:=-1) h.cn (fun t ht=>⟨by have:=(h.v t ht).1;omega,(h.v t ht).1,(h.v t ht).2⟩);show (vT n (-1) (tR f.ts)&&(zJ f.c).ok)=true;rw[h1,pO];rfl
theorem zWL:∀ {l:List F} {k:Int},(∀ (i:Nat) (f:F),l[i]?=some f->f.wf (k+i))->vU k (l.map fA)=true
 |[],_,_=>rfl| f::r,k,h=>by have h0:=h 0 f rfl;rw[show k+((0:Nat):Int)=k by omega] at h0;have ih:=zWL (l:=r) (k:=k+1) (fun i g hg=>by have:=h (i+1) g (by simpa using hg);rw[show k+((i+1:Nat):Int)=k+1+i by omega] at this;exact this);show ((fA f).valid k&&vU (k+1) (r.map fA))=true;rw[h0.valid,ih];rfl
theorem zTQ {l:List F}{n:Int}(h:∀ f,f∈l->f.wf n):(l.map fA).all (A.valid n)=true:=by rw[tG];intro a ha;obtain⟨f,hf,rfl⟩:=y8.1 ha;exact (h f hf).valid
theorem zWN:∀ {l:List (Rat×Rat)},(∀ b,b∈l->b.1<=b.2)->vB (l.map fun b=>zJ b.1) (l.map fun b=>zJ b.2)=true
 |[],_=>rfl| b::r,h=>by have ih:=zWN (l:=r) (fun c hc=>h c (xN _ hc));have hb:=h b xM;show ((zJ b.1).ok&&(zJ b.2).ok&&decide (uD (zJ b.1).q (zJ b.2).q<=0)&&vB _ _)=true;rw[ih,pO,pO,z6,z6,decide_eq_true (by unfold uD;split <;> (try split) <;> grind)];rfl
theorem zC9 {α:Type}{l:List α}{a:α}(h:a∈l):∃ i:Nat,l[i]?=some a:=List.mem_iff_getElem?.1 h
structure FQry.ok (x:FQry):Prop where
 us:∀ (i:Nat) (f:F),x.g.us[i]?=some f->f.wf ((x.g.n+i:Nat):Int)
 os:∀ f,f∈x.g.os->f.wf ((x.g.n+x.g.us.length:Nat):Int)
 rows:∀ f,f∈x.r.rows->f.wf (x.g.n:Int)
 goal:x.goal.wf ((x.g.n+x.g.us.length:Nat):Int)
theorem zZH (raw:List UInt8)(a:Nat):(fdY raw a).1.ok where
 us:=zTH raw a
 os:=fun f hf=>by obtain⟨i,hi⟩:=zC9 hf;have:=zI4 (raw:=raw) (d:=0) hi;rw[Nat.mul_zero,alT5] at this;have e:(fdY raw a).1.g.us.length=fdN raw 5 (na raw a):=cE raw 1 _ _ _;rw[e];exact this
 rows:=fun f hf=>by obtain⟨i,hi⟩:=zC9 hf;have:=zI4 (raw:=raw) (d:=0) hi;rw[Nat.mul_zero,alT5] at this;exact this
 goal:=zNC raw _ _
theorem FQry.small.valid {x:FQry}(h:x.small)(g:x.ok):x.q.valid=true:=by
 have h1:=h.g.n1;have h2:=h.g.n2;have h3:=h.g.us;have h4:=h.g.o1;have h5:=h.g.o2;have h6:=h.r.bs;have h7:=h.r.rows;have hv:x.g.g.vars=((x.g.n+x.g.us.length:Nat):Int):=by show (x.g.n:Int)+((x.g.us.map fA).length:Int)=_;rw[xA];omega
 have hn:x.g.g.n=(x.g.n:Int):=rfl;have hg:x.g.g.valid=true:=by unfold Grp.valid;rw[hv];have a1:vU x.g.g.n x.g.g.us=true:=zWL (l:=x.g.us) (k:=(x.g.n:Int)) (fun i f hf=>by have:=g.us i f hf;rw[show ((x.g.n+i:Nat):Int)=(x.g.n:Int)+i by omega] at this;exact this);have a2:x.g.g.os.all (A.valid ((x.g.n+x.g.us.length:Nat):Int))=true:=zTQ g.os;rw[a1,a2,decide_eq_true ⟨by rw[hn];omega,by rw[hn];omega,by show (x.g.us.map fA).length<=_;rw[xA];omega,by show 1<=(x.g.os.map fA).length;rw[xA];omega,by show (x.g.os.map fA).length<=_;rw[xA];omega⟩];rfl
 have hr:x.r.g.valid (x.g.n:Int)=true:=by unfold Reg.valid;have a1:vB x.r.g.lo x.r.g.hi=true:=zWN h.r.ord;have a2:x.r.g.rows.all (A.valid (x.g.n:Int))=true:=zTQ g.rows;rw[a1,a2,decide_eq_true ⟨by omega,by omega,by show ((x.r.bs.map _).length:Int)=_;rw[xA];omega,by show ((x.r.bs.map _).length:Int)=_;rw[xA];omega,by show (x.r.rows.map fA).length<=_;rw[xA];omega⟩];rfl
 have hgo:(fA x.goal).valid x.g.g.vars=true:=by rw[hv];exact g.goal.valid
 show (x.g.g.valid&&x.r.g.valid x.g.g.n&&(fA x.goal).valid x.g.g.vars)=true;rw[hg,hn,hr,hgo];rfl
def fmD (s:Scp) (r:Row):F:=(s.fm r).getD F.zero
def SC (s:Scp) (v:Int):List (Row×Rat)->Rat
 |[]=>0| t::r=>t.2*co (fmD s t.1).ts v+SC s v r
def SK (s:Scp):List (Row×Rat)->Rat
 |[]=>0| t::r=>t.2*(fmD s t.1).c+SK s r
def AV (s:Scp) (l:List (Row×Rat)):Prop:=∀ t,t∈l->∃ f,s.fm t.1=some f
theorem zTU (s:Scp)(v:Int)(r:Row)(q:Rat):∀ l,SC s v (plM r q l)=q*co (fmD s r).ts v+SC s v l
 |[]=>rfl| t::l=>by unfold plM;split;{simp only[SC,zTU s v r q l];grind};{split;{rename_i e;simp only[SC,e];grind};{simp only[SC]}}
theorem zTT (s:Scp)(r:Row)(q:Rat):∀ l,SK s (plM r q l)=q*(fmD s r).c+SK s l
 |[]=>rfl| t::l=>by unfold plM;split;{simp only[SK,zTT s r q l];grind};{split;{rename_i e;simp only[SK,e];grind};{simp only[SK]}}
theorem zT0 {q:Rat}(h:z4 q=0):q=0:=zFV.1 h
theorem zWI (s:Scp)(v:Int)(r:Row)(q:Rat)(l):SC s v (plMq l r q)=q*co (fmD s r).ts v+SC s v l:=by unfold plMq;split;{rename_i h;rw[zT0 h];grind};{exact zTU s v r q l}
theorem zWH (s:Scp)(r:Row)(q:Rat)(l):SK s (plMq l r q)=q*(fmD s r).c+SK s l:=by unfold plMq;split;{rename_i h;rw[zT0 h];grind};{exact zTT s r q l}
theorem zTV {s:Scp}{r:Row}{q:Rat}(hr:∃ f,s.fm r=some f):∀ {l},AV s l->AV s (plM r q l)
 |[],_=>fun t ht=>by
  (have:t=(r,q):=by simpa[plM] using ht);rw[this];exact hr
 |u::l,h=>by have hl:AV s l:=fun t ht=>h t (xN _ ht);unfold plM;split;{intro t ht;rcases yI.1 ht with rfl|ht;{exact h _ xM};{exact zTV hr hl t ht}};{split;{intro t ht;rcases yI.1 ht with rfl|ht;{exact hr};{exact hl t ht}};{intro t ht;rcases yI.1 ht with rfl|ht;{exact hr};{exact h t ht}}}
theorem zWK {s:Scp}{r:Row}{q:Rat}(hr:∃ f,s.fm r=some f){l}(h:AV s l):AV s (plMq l r q):=by unfold plMq;split;{exact h};{exact zTV hr h}
theorem zK3 (s:Scp)(v:Int)(c:Rat):∀ b a,SC s v (xT a b c)=SC s v a+c*SC s v b
 |[],a=>by show SC s v a=_;simp only[SC];grind| t::b,a=>by show SC s v (xT (plMq a t.1 (t.2*c)) b c)=_;rw[zK3 s v c b,zWI];simp only[SC];grind
theorem zK2 (s:Scp)(c:Rat):∀ b a,SK s (xT a b c)=SK s a+c*SK s b
 |[],a=>by show SK s a=_;simp only[SK];grind| t::b,a=>by show SK s (xT (plMq a t.1 (t.2*c)) b c)=_;rw[zK2 s c b,zWH];simp only[SK];grind
theorem zK4 {s:Scp}{c:Rat}:∀ {b a},AV s b->AV s a->AV s (xT a b c)
 |[],a,_,h=>h| t::b,a,hb,h=>zK4 (b:=b) (fun u hu=>hb u (xN _ hu)) (zWK (hb t xM) h)
theorem zER {c:Rat}(hc:0<=c):∀ {b a},(∀ t,t∈b->0<=t.2)->Rs a->Rs (xT a b c)
 |[],a,_,h=>h| t::b,a,hb,h=>zER hc (b:=b) (fun u hu=>hb u (xN _ hu)) (zVS h (Rat.mul_nonneg (hb t xM) hc))
theorem cZ (f:F)(c:Rat)(v:Int):co (f.scale c).ts v=co f.ts v*c:=by show co (mrg c [] f.ts) v=_;rw[dQ];simp only[co];grind
theorem zFM (f g:F)(v:Int):co (f.add g).ts v=co f.ts v+co g.ts v:=by show co (mrg 1 f.ts g.ts) v=_;rw[dQ];grind
theorem zJA (f g:F)(v:Int):co (f.sub g).ts v=co f.ts v-co g.ts v:=by show co (mrg (-1) f.ts g.ts) v=_;rw[dQ];grind
theorem zNQ {s:Scp}:∀ {l:List (Row×Rat)} {acc:F},AV s l->∃ f,sumL s acc (mR l)=some f/\(∀ v,co f.ts v=co acc.ts v+SC s v l)/\f.c=acc.c+SK s l/\(Cn acc.ts->(∀ r g,s.fm r=some g->Cn g.ts)->Cn f.ts)
 |[],acc,_=>⟨acc,rfl,fun v=>by simp only[SC];grind,by simp only[SK];grind,fun h _=>h⟩| t::l,acc,h=>by
  (obtain⟨g,hg⟩:=h t xM;obtain⟨f,h1,h2,h3,h4⟩:=zNQ (s:=s) (l:=l) (acc:=acc.add (g.scale t.2)) (fun u hu=>h u (xN _ hu));have hd:fmD s t.1=g:=by unfold fmD;rw[hg];rfl);refine⟨f,?_,fun v=>?_,?_,fun hc hcn=>h4 (hc.mrg (Cn.mrg Cn.nil (hcn _ _ hg))) hcn⟩
  {have e:mR (t::l)=⟨t.1,zJ t.2⟩::mR l:=rfl;rw[e];unfold sumL;dsimp only;rw[hg];dsimp only;rw[z6];exact h1};{rw[h2,zFM,cZ];simp only[SC,hd];grind};{have e:(acc.add (g.scale t.2)).c=acc.c+(0+g.c*t.2)*1:=rfl;rw[h3,e];simp only[SK,hd];grind}
theorem zYF {s:Scp}{l:List (Row×Rat)}(hr:Rs l)(ha:AV s l):∃ f,s.sum (mR l)=(0,f)/\(∀ v,co f.ts v=SC s v l)/\f.c=SK s l/\((∀ r g,s.fm r=some g->Cn g.ts)->Cn f.ts):=by obtain⟨f,h1,h2,h3,h4⟩:=zNQ (acc:=F.zero) ha;refine⟨f,?_,fun v=>?_,?_,fun h=>h4 Cn.nil h⟩;{unfold Scp.sum;rw[zH9 hr (fun w e=>by cases e),h1];rfl};{rw[h2];have:co F.zero.ts v=0:=rfl;rw[this];grind};{rw[h3];have:F.zero.c=0:=rfl;rw[this];grind}
theorem zKU {L:List Lem}{unit:Int}:∀ {r:List Lem} {n:Nat} {b:Nat×Nat},r=L.drop n->(b.1≠0->∃ m,L[b.1-1]?=some m/\m.u=unit/\m.up=false)/\(b.2≠0->∃ m,L[b.2-1]?=some m/\m.u=unit/\m.up=true) ->((bN L unit n r b).1≠0->∃ m,L[(bN L unit n r b).1-1]?=some m/\m.u=unit/\m.up=false)/\((bN L unit n r b).2≠0->∃ m,L[(bN L unit n r b).2-1]?=some m/\m.u=unit/\m.up=true)
 |[],n,b,_,hb=>hb| m::r,n,b,hr,hb=>by
  have hm:L[n]?=some m:=by
   (have:(L.drop n)[0]?=some m:=by rw[<-hr];rfl);simpa using this
  have hr':r=L.drop (n+1):=by
   (have:(L.drop n).drop 1=L.drop (n+1):=by rw[i3]);rw[<-this,<-hr];rfl
  unfold bN;refine zKU hr' ?_;split
  ·rename_i hu;split;{rename_i hup;split;{exact⟨hb.1,fun _=>⟨m,hm,hu,hup⟩⟩};{exact hb}}
   ·(rename_i hup;have hup':m.up=false:=by simpa using hup);split
    {exact⟨fun _=>⟨m,hm,hu,hup'⟩,hb.2⟩};{exact hb}
  {exact hb}
theorem zO2 (s:Scp)(unit:Int):((s.best unit).1≠0->∃ m,s.lems[(s.best unit).1-1]?=some m/\m.u=unit/\m.up=false)/\((s.best unit).2≠0->∃ m,s.lems[(s.best unit).2-1]?=some m/\m.u=unit/\m.up=true) :=
 zKU (by simp) ⟨fun h=>absurd rfl h,fun h=>absurd rfl h⟩
theorem oO {s:Scp}{k:Nat}{unit:Int}{up:Bool}{m:Lem}(h0:k≠0)(hm:s.lems[k-1]?=some m)(hu:m.u=unit)(hp:m.up=up):s.lem k unit up=some (qO s.lems k):=by
 have hl:k-1<s.lems.length:=(wH.1 hm).1;have e:((k:Int)-1).toNat=k-1:=by omega
 rw[zM8 (m:=m) oM oM (by rw[e];exact hm),if_pos ⟨hu,hp⟩];unfold qO;rw[hm];rfl
theorem cC {s:Scp}(hv:s.q.valid=true){k lo hi:Int}{i:Nat}{p:F}(hk:5<=k)(hk2:k<14)(hp:s.q.g.us[i]?=some (fA p)):s.fm ⟨k,i,lo,hi⟩=unF s ⟨k,i,lo,hi⟩ p (F.var (s.q.g.n+i)) (s.lem lo i false) (s.lem hi i true):=by
 have hl:i<s.q.g.us.length:=(wH.1 hp).1;unfold Scp.fm;rw[if_neg (by rw[hv];simp;omega),if_neg (by show ¬k<=4;omega)];unfold Scp.fUn;rw[if_pos ⟨by show (0:Int)<=i;omega,by show (i:Int)<_;omega⟩];have e:((⟨k,i,lo,hi⟩:Row).i).toNat=i:=by show ((i:Int)).toNat=i;omega
 rw[e,hp];dsimp only;rw[kY]
theorem zW4 {s:Scp}(hv:s.q.valid=true){i:Nat}{x:R}(hx:s.q.r.lo[i]?=some x):s.fm ⟨1,i,0,0⟩=some ((F.var i).sub (F.num x.q)):=by
 unfold Scp.fm;rw[if_neg (by rw[hv];simp),if_pos (by show (1:Int)<=4;decide)];unfold Scp.fIn;rw[if_pos ⟨rfl,by show (0:Int)<=i;omega⟩,if_pos rfl];have e:((⟨1,i,0,0⟩:Row).i).toNat=i:=by show ((i:Int)).toNat=i;omega
 rw[e,hx];rfl
theorem zW6 {s:Scp}(hv:s.q.valid=true){i:Nat}{x:R}(hx:s.q.r.hi[i]?=some x):s.fm ⟨2,i,0,0⟩=some ((F.num x.q).sub (F.var i)):=by
 unfold Scp.fm;rw[if_neg (by rw[hv];simp),if_pos (by show (2:Int)<=4;decide)];unfold Scp.fIn;rw[if_pos ⟨rfl,by show (0:Int)<=i;omega⟩,if_neg (by show ¬(2:Int)=1;decide),if_pos rfl];have e:((⟨2,i,0,0⟩:Row).i).toNat=i:=by show ((i:Int)).toNat=i;omega
 rw[e,hx];rfl
def dlt (v w:Int):Rat:=if v=w then 1 else 0
theorem iQ (v w:Int):co (F.var v).ts w=dlt v w:=by show (if v=w then 1 else 0)+(0:Rat)=_;unfold dlt;grind
theorem iS (q:Rat)(w:Int):co (F.num q).ts w=0:=rfl
theorem j3 {s:Scp}{r:Row}{f:F}(h:s.fm r=some f):fmD s r=f:=by unfold fmD;rw[h];rfl
theorem zXG {s:Scp}(hv:s.q.valid=true){i:Nat}{p:F}(hp:s.q.g.us[i]?=some (fA p)){lo hi:Nat}{l u:Rat}(hl:s.lem lo i false=some l)(hu:s.lem hi i true=some u):AV s (upM i lo hi l u)/\(∀ t,t∈upM i lo hi l u->0<=t.2)/\∀ w,SC s w (upM i lo hi l u)=- dlt (s.q.g.n+i) w:=by
 have f12:s.fm ⟨12,i,0,hi⟩=some ((F.num u).sub p):=by rw[cC hv (by decide) (by decide) hp,hu];rfl
 unfold upM;split
 ·(rename_i h;have f10:s.fm ⟨10,i,0,hi⟩=some ((F.var (s.q.g.n+i)).scale (-1)):=by rw[cC hv (by decide) (by decide) hp,hu];show (if offB s ⟨10,i,0,hi⟩ u true=true then _ else none)=_;rw[if_pos (by unfold offB;rw[decide_eq_true h];simp)]);refine⟨fun t ht=>?_,fun t ht=>?_,fun w=>?_⟩
  ·(have:t=(⟨10,i,0,hi⟩,1):=by simpa using ht);rw[this];exact⟨_,f10⟩
  ·(have:t=(⟨10,i,0,hi⟩,1):=by simpa using ht);rw[this];show (0:Rat)<=1;decide
  {simp only[SC,j3 f10,cZ,iQ];grind}
 ·rename_i h1;split
  ·(rename_i h;have f8:s.fm ⟨8,i,lo,0⟩=some (p.sub (F.var (s.q.g.n+i))):=by rw[cC hv (by decide) (by decide) hp,hl];show (if onB s ⟨8,i,lo,0⟩ l true=true then _ else none)=_;rw[if_pos (by unfold onB;rw[decide_eq_true h];simp)]);refine⟨fun t ht=>?_,fun t ht=>?_,fun w=>?_⟩
   ·(have:t=(⟨8,i,lo,0⟩,1)\/t=(⟨12,i,0,hi⟩,1):=by simpa using ht);rcases this with h|h <;> rw[h]
    {exact⟨_,f8⟩};{exact⟨_,f12⟩}
   ·(have:t=(⟨8,i,lo,0⟩,1)\/t=(⟨12,i,0,hi⟩,1):=by simpa using ht);rcases this with h|h <;> (rw[h];show (0:Rat)<=1;decide)
   {simp only[SC,j3 f8,j3 f12,zJA,iQ,iS];grind}
  ·rename_i h2;have hu0:0<u:=by
    (have:0<z4 u:=by omega);exact pJ.1 this
   have hl0:l<0:=by
    (have:z4 l<0:=by omega);exact zHM.1 this
   have f13:s.fm ⟨13,i,lo,hi⟩=some (((p.sub (F.num l)).scale u).sub ((F.var (s.q.g.n+i)).scale (u-l))):=by rw[cC hv (by decide) (by decide) hp,hl,hu];show (if _/\_/\_/\_ then _ else none)=_;rw[if_pos ⟨rfl,rfl,by show z4 l<0;omega,by show 0<z4 u;omega⟩];rfl
   (have hpos:0<u-l:=by grind);have hinv:0<1/(u-l):=by rw[f9,zB8];exact Rat.inv_pos.2 hpos
   (have hne:u-l≠0:=by grind);have hone:1/(u-l)*(u-l)=1:=by rw[f9,zB8];exact Rat.inv_mul_cancel _ hne
   generalize 1/(u-l)=d at *
   refine⟨fun t ht=>?_,fun t ht=>?_,fun w=>?_⟩
   ·(have:t=(⟨12,i,0,hi⟩,d*u)\/t=(⟨13,i,lo,hi⟩,d):=by simpa using ht);rcases this with h|h <;> rw[h]
    {exact⟨_,f12⟩};{exact⟨_,f13⟩}
   ·(have:t=(⟨12,i,0,hi⟩,d*u)\/t=(⟨13,i,lo,hi⟩,d):=by simpa using ht);rcases this with h|h <;> rw[h]
    {exact Rat.le_of_lt (Rat.mul_pos hinv hu0)};{exact Rat.le_of_lt hinv}
   ·(simp only[SC,j3 f12,j3 f13,zJA,cZ,iQ,iS];have e:d*u*(0-co p.ts w)+(d*((co p.ts w-0)*u-dlt (s.q.g.n+i) w*(u-l))+0)=- (dlt (s.q.g.n+i) w*(d*(u-l))):=by grind);rw[e,hone]
    grind
theorem zO5 (q:Rat):0<=vK q:=by unfold vK;split <;> grind
theorem zPO {s:Scp}{x:FQry}(hq:s.q=x.q)(hv:s.q.valid=true)(hx:x.small){v:Nat}(h:v<x.g.n+x.g.us.length):AV s (s.atLeastM v)/\(∀ t,t∈s.atLeastM v->0<=t.2)/\∀ w,SC s w (s.atLeastM v)=dlt v w:=by
 have hn:s.q.g.n=(x.g.n:Int):=by rw[hq];rfl
 unfold Scp.atLeastM;by_cases hlt:v<x.g.n;{rw[if_pos oM];obtain⟨y,hy⟩:∃ y,s.q.r.lo[v]?=some y:=zT (by rw[hq];show v<(x.r.bs.map _).length;rw[xA,hx.r.bs];exact hlt);have f1:=zW4 hv hy;refine⟨fun t ht=>?_,fun t ht=>?_,fun w=>?_⟩;{rw[vL.1 ht];exact⟨_,f1⟩};{rw[vL.1 ht];show (0:Rat)<=1;decide};{simp only[SC,j3 f1,zJA,iQ,iS];grind}}
 ·(rw[if_neg oM];have e:(v:Int)-s.q.g.n=((v-x.g.n:Nat):Int):=by omega);have hp:s.q.g.us[v-x.g.n]?=some (fA x.g.us[v-x.g.n]):=by rw[hq];show (x.g.us.map fA)[v-x.g.n]?=_;rw[bR];simp[show v-x.g.n<x.g.us.length by omega]
  (have f5:s.fm ⟨5,((v-x.g.n:Nat):Int),0,0⟩=some (F.var (s.q.g.n+(v-x.g.n:Nat))):=by rw[cC hv (by decide) (by decide) hp];rfl);rw[e];refine⟨fun t ht=>?_,fun t ht=>?_,fun w=>?_⟩;{rw[vL.1 ht];exact⟨_,f5⟩};{rw[vL.1 ht];show (0:Rat)<=1;decide}
  {simp only[SC,j3 f5,iQ];rw[show s.q.g.n+((v-x.g.n:Nat):Int)=(v:Int) by omega];grind}
theorem zRM {s:Scp}{x:FQry}(hq:s.q=x.q)(hv:s.q.valid=true)(hx:x.small){v:Nat}(h:v<x.g.n+x.g.us.length){more:List (Row×Rat)}(hm:s.atMostM v=some more):AV s more/\(∀ t,t∈more->0<=t.2)/\∀ w,SC s w more=- dlt v w:=by
 have hn:s.q.g.n=(x.g.n:Int):=by rw[hq];rfl
 unfold Scp.atMostM at hm;by_cases hlt:v<x.g.n;{rw[if_pos oM] at hm;cases hm;obtain⟨y,hy⟩:∃ y,s.q.r.hi[v]?=some y:=zT (by rw[hq];show v<(x.r.bs.map _).length;rw[xA,hx.r.bs];exact hlt);have f2:=zW6 hv hy;refine⟨fun t ht=>?_,fun t ht=>?_,fun w=>?_⟩;{rw[vL.1 ht];exact⟨_,f2⟩};{rw[vL.1 ht];show (0:Rat)<=1;decide};{simp only[SC,j3 f2,zJA,iQ,iS];grind}}
 ·(rw[if_neg oM] at hm;have e:(v:Int)-s.q.g.n=((v-x.g.n:Nat):Int):=by omega);have hp:s.q.g.us[v-x.g.n]?=some (fA x.g.us[v-x.g.n]):=by rw[hq];show (x.g.us.map fA)[v-x.g.n]?=_;rw[bR];simp[show v-x.g.n<x.g.us.length by omega]
  rw[e] at hm;split at hm;{cases hm};{rename_i hb;cases hm;obtain⟨b1,b2⟩:=zO2 s ((v-x.g.n:Nat):Int);have h1:(s.best ((v-x.g.n:Nat):Int)).1≠0:=fun g=>hb (.inl g);have h2:(s.best ((v-x.g.n:Nat):Int)).2≠0:=fun g=>hb (.inr g);obtain⟨m1,c1,c2,c3⟩:=b1 h1;obtain⟨m2,d1,d2,d3⟩:=b2 h2;have:=zXG hv hp (oO h1 c1 c2 c3) (oO h2 d1 d2 d3);rw[show s.q.g.n+((v-x.g.n:Nat):Int)=(v:Int) by omega] at this;exact this}
theorem zCY {s:Scp}{x:FQry}(hq:s.q=x.q)(hv:s.q.valid=true)(hx:x.small):∀ {ts:List (Int×Rat)} {l l':List (Row×Rat)},(∀ t,t∈ts->0<=t.1/\t.1<((x.g.n+x.g.us.length:Nat):Int)) ->s.aboveL ts l=some l'->AV s l->Rs l->AV s l'/\Rs l'/\∀ w,SC s w l'=SC s w l+co ts w
 |[],l,l',_,h,ha,hr=>by cases h;exact⟨ha,hr,fun w=>by show _=_+(0:Rat);grind⟩
 |t::r,l,l',hb,h,ha,hr=>by
  (obtain⟨h1,h2⟩:=hb t xM;obtain⟨v,hv1⟩:∃ v:Nat,t.1=v:=⟨t.1.toNat,by omega⟩;have hvl:v<x.g.n+x.g.us.length:=by omega);unfold Scp.aboveL at h
  (have hm:∀ {more:List (Row×Rat)},(if 0<z4 t.2 then some (s.atLeastM t.1) else s.atMostM t.1)=some more->AV s more/\(∀ t,t∈more->0<=t.2)/\∀ w,vK t.2*SC s w more=(if t.1=w then t.2 else 0):=fun {more} g=>by rw[hv1] at g ⊢;split at g;{rename_i hs;cases g;obtain⟨g1,g2,g3⟩:=zPO hq hv hx hvl;refine⟨g1,g2,fun w=>?_⟩;have hp:=pJ.1 hs;rw[g3];unfold vK dlt;rw[if_neg (by grind)];split <;> grind};{rename_i hs;obtain⟨g1,g2,g3⟩:=zRM hq hv hx hvl g;refine⟨g1,g2,fun w=>?_⟩;have hp:¬0<t.2:=fun g=>hs (pJ.2 g);rw[g3];unfold vK dlt;split <;> split <;> grind});split at h;{cases h};{rename_i more hmore;obtain⟨g1,g2,g3⟩:=hm hmore;obtain⟨k1,k2,k3⟩:=zCY hq hv hx (fun u hu=>hb u (xN _ hu)) h (zK4 g1 ha) (zER (zO5 t.2) g2 hr);refine⟨k1,k2,fun w=>?_⟩;rw[k3,zK3,g3];show _=SC s w l+((if t.1=w then t.2 else 0)+co r w);grind}

theorem zNF (q:Rat):Cn (F.num q).ts:=Cn.nil
theorem zB1 {f g:F}(hf:Cn f.ts)(hg:Cn g.ts):Cn (f.sub g).ts:=Cn.mrg hf hg
theorem zZS {f g:F}(hf:Cn f.ts)(hg:Cn g.ts):Cn (f.add g).ts:=Cn.mrg hf hg
theorem o7 {f:F}{c:Rat}(hf:Cn f.ts):Cn (f.scale c).ts:=Cn.mrg Cn.nil hf
theorem zXI {s:Scp}{r:Row}{p v f:F}{l u:Option Rat}(hp:Cn p.ts)(hv:Cn v.ts)(h:unF s r p v l u=some f):Cn f.ts:=by
 have two:∀ {c:Prop} [Decidable c] {x:F},(if c then some x else none)=some f->x=f:=fun h=>by split at h;{exact vN h};{cases h}
 unfold unF at h;by_cases h5:r.k=5;{rw[if_pos h5] at h;rw[<-two h];exact hv};rw[if_neg h5] at h;by_cases h6:r.k=6;{rw[if_pos h6] at h;rw[<-two h];exact zB1 hv hp};rw[if_neg h6] at h;by_cases h7:r.k=7;{rw[if_pos h7] at h;rw[<-two h];exact zZS hp Cn.nil};rw[if_neg h7] at h;by_cases h8:r.k=8;{rw[if_pos h8] at h;rw[<-two h];exact zB1 hp hv};rw[if_neg h8] at h;by_cases h9:r.k=9;{rw[if_pos h9] at h;rw[<-two h];exact o7 hp};rw[if_neg h9] at h;by_cases h10:r.k=10;{rw[if_pos h10] at h;rw[<-two h];exact o7 hv};rw[if_neg h10] at h;by_cases h11:r.k=11;{rw[if_pos h11] at h;rw[<-two h];exact zB1 hp (zNF _)};rw[if_neg h11] at h;by_cases h12:r.k=12;{rw[if_pos h12] at h;rw[<-two h];exact zB1 (zNF _) hp};rw[if_neg h12] at h;by_cases h13:r.k=13;{rw[if_pos h13] at h;rw[<-two h];exact zB1 (o7 (zB1 hp (zNF _))) (o7 hv)};rw[if_neg h13] at h;cases h

def Scp.onU (s:Scp) (j:Int):Bool:=s.dcd 1 j || (decide (0<(s.best j).1)&&decide (0<=z4 (qO s.lems (s.best j).1)))
def Scp.offU (s:Scp) (j:Int):Bool:=s.dcd 2 j || (decide (0<(s.best j).2)&&decide (z4 (qO s.lems (s.best j).2)<=0))
def Scp.rowsOn (s:Scp) (j:Int):List Row :=
 let b:Int:=if s.dcd 1 j=true then 0 else ((s.best j).1:Int)
 [⟨6,j,0,0⟩,⟨7,j,b,0⟩,⟨8,j,b,0⟩]
def Scp.rowsOff (s:Scp) (j:Int):List Row :=
 let b:Int:=if s.dcd 2 j=true then 0 else ((s.best j).2:Int)
 [⟨5,j,0,0⟩,⟨9,j,0,b⟩,⟨10,j,0,b⟩]
def Scp.rowsOpen (s:Scp) (j:Int):List Row :=
 [⟨5,j,0,0⟩,⟨6,j,0,0⟩]++(if 0<(s.best j).1 then [⟨11,j,((s.best j).1:Int),0⟩] else [])++(if 0<(s.best j).2 then [⟨12,j,0,((s.best j).2:Int)⟩] else []) ++
  (if 0<(s.best j).1/\0<(s.best j).2 then [⟨13,j,((s.best j).1:Int),((s.best j).2:Int)⟩] else [])
def Scp.rowsU (s:Scp) (j:Int):List Row :=
 (if s.onU j=true then s.rowsOn j else [])++(if s.offU j=true then s.rowsOff j else [])++(if s.onU j=true\/s.offU j=true then [] else s.rowsOpen j)
def Scp.all (s:Scp):List Row :=
 if s.q.valid=false then [] else
 ((List.range s.q.g.n.toNat).flatMap fun i:Nat=>[(⟨1,(i:Int),0,0⟩:Row),⟨2,(i:Int),0,0⟩])++((List.range s.q.r.rows.length).map fun i:Nat=>(⟨3,(i:Int),0,0⟩:Row)) ++
  (((List.range s.path.length).filter fun i:Nat=>(s.fm ⟨4,(i:Int),0,0⟩).isSome).map fun i:Nat=>(⟨4,(i:Int),0,0⟩:Row))++((List.range s.q.g.us.length).flatMap fun j:Nat=>s.rowsU (j:Int))
end Go.Proofs.YtaeaffgjdcigoaaGreat
