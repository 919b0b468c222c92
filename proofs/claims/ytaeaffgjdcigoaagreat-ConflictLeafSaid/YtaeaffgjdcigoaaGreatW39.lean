/- A part of the proof: KpP, KqA, KqB, KqC, KqD, KqE. -/
import Derived.Test.YtaeaffgjdcigoaaGreatW38
import Derived.Test.YtaeaffgjdcigoaaGreatW44
import Derived.Test.YtaeaffgjdcigoaaGreatW36
set_option linter.all false
namespace Go.Proofs.YtaeaffgjdcigoaaGreat
open Go
theorem Cw.mono {s:Scp}{p c p':Nat}(h:Cw s p c)(hp:p<=p'):Cw s p' c:=⟨h.dp,h.v,h.qz,vL h.pl hp,h.len,h.l,h.lb,h.r⟩
def QI (raw:List UInt8):Lft (clo raw) (mR (aA raw)):=by obtain⟨cv,dr⟩:=Rz raw;refine⟨cv.toCw.mono (by decide),by rw[jN];exact dr.len,⟨by rw[jN];have:=dr.len;show (oL (mE raw)).length<2^38;omega,λm hm=>?_⟩,λm hm=>?_⟩;{obtain⟨t,ht,rfl⟩:=yZ.1 hm;exact zU (dr.m t ht)};{obtain⟨t,ht,rfl⟩:=yZ.1 hm;exact (dr.r t ht).mono (yD _) (yD _)}
def rrR (σ:Int->Int) (r:Row):Row:=⟨r.k,r.i,σ r.lo,σ r.hi⟩
def rrM (σ:Int->Int) (m:Mult):Mult:=⟨rrR σ m.row,m.c⟩
structure Rn (s t:Scp) (σ:Int->Int) (N:Int->Prop):Prop where
 q:t.q=s.q
 z:σ 0=0
 n0:N 0
 m:∀ a b,N a->N b->a<b->σ a<σ b
 l:∀ n,N n->n≠0->∀ u up,t.lem (σ n) u up=s.lem n u up
structure RnR (s t:Scp) (N:Int->Prop) (r:Row):Prop where
 lo:N r.lo
 hi:N r.hi
 k:r.k≠4
 on:r.k=7\/r.k=8->r.lo=0->t.dcd 1 r.i=s.dcd 1 r.i
 off:r.k=9\/r.k=10->r.hi=0->t.dcd 2 r.i=s.dcd 2 r.i
theorem Rn.zr {s t σ N}(h:Rn s t σ N){a:Int}(ha:N a):σ a=0↔a=0:=by have h1:=h.m a 0 ha h.n0;have h2:=h.m 0 a h.n0 ha;have h3:=h.z;grind
theorem Rn.lm {s t σ N}(h:Rn s t σ N){a:Int}(ha:N a)(u:Int)(up:Bool):t.lem (σ a) u up=s.lem a u up:=by by_cases e:a=0;{subst e;rw[h.z,ZZ oM,ZZ oM]};{exact h.l a ha e u up}
theorem Rn.fm {s t σ N}(h:Rn s t σ N){r:Row}(hr:RnR s t N r):t.fm (rrR σ r)=s.fm r:=by
 have e1:=h.zr hr.lo;have e2:=h.zr hr.hi;have e3:=λup=>h.lm hr.lo r.i up;have e4:=λup=>h.lm hr.hi r.i up;have d1:decide (σ r.lo=0)=decide (r.lo=0):=decide_eq_decide.2 e1;have d2:decide (σ r.hi=0)=decide (r.hi=0):=decide_eq_decide.2 e2;have ep:(rrR σ r).plain=r.plain:=by show (decide (σ r.lo=0)&&decide (σ r.hi=0))=_;rw[d1,d2];rfl
 have o1:r.k=7\/r.k=8->∀ L b,onB t (rrR σ r) L b=onB s r L b:=λhk L b=>by show (decide (σ r.hi=0)&&((decide (σ r.lo=0)&&t.dcd 1 r.i) || _))=_;rw[d1,d2];unfold onB;by_cases e:r.lo=0;{rw[hr.on hk e]};{rw[decide_eq_false e];rfl}
 have o2:r.k=9\/r.k=10->∀ L b,pZ t (rrR σ r) L b=pZ s r L b:=λhk L b=>by show (decide (σ r.lo=0)&&((decide (σ r.hi=0)&&t.dcd 2 r.i) || _))=_;rw[d1,d2];unfold pZ;by_cases e:r.hi=0;{rw[hr.off hk e]};{rw[decide_eq_false e];rfl}
 have u:∀ p v l w,unF t (rrR σ r) p v l w=unF s r p v l w:=λp v l w=>by unfold unF;rw[ep];have k1:(rrR σ r).k=r.k:=rfl;have k2:(rrR σ r).lo=σ r.lo:=rfl;have k3:(rrR σ r).hi=σ r.hi:=rfl;grind
 unfold Scp.fm;show (if r.k<1\/14<=r.k\/t.q.valid=false then none else if r.k<=4 then _ else _)=_;rw[h.q];have i1:t.fIn (rrR σ r)=s.fIn r:=by unfold Scp.fIn;rw[ep,h.q];show (if r.plain=true/\0<=r.i then (if r.k=1 then _ else if r.k=2 then _ else if r.k=3 then _ else if r.k=4 then _ else none) else none)=_;rw[if_neg hr.k,if_neg hr.k];rfl
 have i2:t.fUn (rrR σ r)=s.fUn r:=by
  unfold Scp.fUn;rw[h.q];by_cases hi:0<=r.i/\r.i<s.q.g.us.length
  ·rw[if_pos hi,if_pos (show 0<=(rrR σ r).i/\(rrR σ r).i<s.q.g.us.length from hi)];show (match s.q.g.us[r.i.toNat]? with
    |some p=>unF t (rrR σ r) p.f (F.var (s.q.g.n+r.i)) (t.lem (σ r.lo) r.i false) (t.lem (σ r.hi) r.i true)| none=>none)=_
   rw[e3,e4];cases s.q.g.us[r.i.toNat]? with
   |none=>rfl| some p=>exact u _ _ _ _
  {rw[if_neg hi,if_neg (show ¬(0<=(rrR σ r).i/\(rrR σ r).i<s.q.g.us.length) from hi)]}
 rw[i1,i2]
theorem Rn.ci {s t σ N}(h:Rn s t σ N){a b:Int}(ha:N a)(hb:N b):cI (σ a) (σ b)=cI a b:=by have h1:=h.m a b ha hb;have h2:=h.m b a hb ha;unfold cI;rcases Int.lt_trichotomy a b with g|g|g;{have:=h1 g;grind};{subst g;simp};{have:=h2 g;grind}
theorem Rn.cmp {s t σ N}(h:Rn s t σ N){a b:Row}(ha:N a.lo/\N a.hi)(hb:N b.lo/\N b.hi):dF (rrR σ a) (rrR σ b)=dF a b:=by show orI (cI a.k b.k) (orI (cI a.i b.i) (orI (cI (σ a.lo) (σ b.lo)) (cI (σ a.hi) (σ b.hi))))=_;rw[h.ci ha.1 hb.1,h.ci ha.2 hb.2];rfl
theorem Rn.can {s t σ N}(h:Rn s t σ N):∀ {l:List Mult} {p:Option Row},(∀ m,m∈l->N m.row.lo/\N m.row.hi)->(∀ w,p=some w->N w.lo/\N w.hi)->qH (p.map (rrR σ)) (l.map (rrM σ))=qH p l
 |[],_,_,_=>rfl| m::r,p,hl,hp=>by
  have hm:=hl m wI;have ih:=h.can (l:=r) (p:=some m.row) (λx hx=>hl x (wJ _ hx)) (λw hw=>by cases hw;exact hm);rw[jH];unfold qH;rw[<-ih];cases p with
  |none=>rfl| some w =>
   show (_&&(_&&(decide (dF (rrR σ w) (rrR σ m.row)<0)&&_)))=_;rw[h.cmp (hp w rfl) hm];rfl
theorem Rn.smL {s t σ N}(h:Rn s t σ N):∀ {l:List Mult} (acc:F),(∀ m,m∈l->RnR s t N m.row)->sumL t acc (l.map (rrM σ))=sumL s acc l
 |[],_,_=>rfl| m::r,acc,hl=>by
  have hm:=hl m wI;rw[jH];unfold sumL;show (match t.fm (rrR σ m.row) with
   |none=>none| some f=>_)=_
  rw[h.fm hm];cases s.fm m.row with
  |none=>rfl| some f=>exact h.smL _ (λx hx=>hl x (wJ _ hx))
theorem Rn.sum {s t σ N}(h:Rn s t σ N){l:List Mult}(hl:∀ m,m∈l->RnR s t N m.row):t.sum (l.map (rrM σ))=s.sum l:=by have h1:=h.can (l:=l) (p:=none) (λm hm=>⟨(hl m hm).lo,(hl m hm).hi⟩) (λw hw=>by cases hw);unfold Scp.sum;rw[h.smL _ hl,show qH none (l.map (rrM σ))=qH none l from h1]
theorem Rn.proves {s t σ N}(h:Rn s t σ N){l:List Mult}(hl:∀ m,m∈l->RnR s t N m.row)(f:A):t.proves f (l.map (rrM σ))=s.proves f l:=by unfold Scp.proves;rw[h.sum hl]
theorem Rn.closes {s t σ N}(h:Rn s t σ N){l:List Mult}(hl:∀ m,m∈l->RnR s t N m.row)(em:Bool):t.closes em (l.map (rrM σ))=s.closes em l:=by unfold Scp.closes Scp.refutes;rw[h.proves hl,h.sum hl,h.q]
theorem Rn.lemB {s t σ N}(h:Rn s t σ N){m m':Lem}(hl:∀ y,y∈m.pf->RnR s t N y.row)(e:m'=⟨m.u,m.up,m.v,m.pf.map (rrM σ)⟩):t.lemB m'=s.lemB m:=by
 subst e;unfold Scp.lemB;rw[h.q];show (decide (0<=m.u/\m.u<s.q.g.us.length)&&(m.v.ok&&(s.q.valid&&match s.q.g.us[m.u.toNat]? with
  |some p=>t.proves (fA (m.form p.f)) (m.pf.map (rrM σ))| none=>false)))=_
 cases s.q.g.us[m.u.toNat]? with
 |none=>rfl| some p =>
  show (_&&(_&&(_&&t.proves _ _)))=_;rw[h.proves hl]
def VC {s:Scp}:∀ {l:List Mult} {acc f:F},sumL s acc l=some f->∀ m,m∈l->∃ g,s.fm m.row=some g
 |m::r,acc,f,h,y,hy=>by
  unfold sumL at h;cases hx:s.fm m.row with
  |none=>rw[hx] at h;cases h
  |some g =>
   rw[hx] at h;rcases yG.1 hy with rfl|hy;{exact⟨g,hx⟩};{exact VC h y hy}
def Q8 {s:Scp}{l:List Mult}(h:(s.sum l).1=0):∀ m,m∈l->∃ g,s.fm m.row=some g:=by unfold Scp.sum at h;split at h;{cases h};{split at h;{cases h};{rename_i f hf;exact VC hf}}
def nE {s:Scp}{em:Bool}{l:List Mult}(h:s.closes em l=true):∀ m,m∈l->∃ g,s.fm m.row=some g:=by refine Q8 ?_;unfold Scp.closes Scp.refutes Scp.proves at h;grind
def Z0 {s:Scp}{m:Lem}(h:s.lemB m=true):∀ y,y∈m.pf->∃ g,s.fm y.row=some g:=by refine Q8 ?_;unfold Scp.lemB Scp.proves at h;grind
def Bq {s:Scp}{r:Row}{g:F}(h:s.fm r=some g):(r.k=4->∃ d,0<=r.i/\s.path[r.i.toNat]?=some d/\(d.k=3\/d.k=4))/\(r.k=7\/r.k=8->r.lo=0->s.dcd 1 r.i=true)/\(r.k=9\/r.k=10->r.hi=0->s.dcd 2 r.i=true):=by
 unfold Scp.fm at h;refine⟨λhk=>?_,λhk h0=>?_,λhk h0=>?_⟩;{rw[if_neg (by grind),if_pos oM] at h;unfold Scp.fIn at h;grind}
 all_goals
  rw[if_neg (by grind),if_neg oM] at h;unfold Scp.fUn at h;split at h;{split at h;{rw[h0,ZZ (n:=0) oM] at h;unfold unF onB pZ at h;grind};{cases h}};{cases h}
def rU {s:Scp}:∀ {L:List Lem} {i j:Nat} {m:Lem},uP s i L=true->L[j]?=some m->(s.pre (i+j)).lemB m=true
 |a::r,i,0,m,h,hm=>by unfold uP at h;simp only[Zx,mF] at hm;rw[<-hm];exact (QV.1 h).1| a::r,i,j+1,m,h,hm=>by unfold uP at h;have:=rU (QV.1 h).2 (j:=j) (m:=m) (by simpa using hm);rwa [show i+1+j=i+(j+1) by omega] at this
def mY {s:Scp}:∀ {L:List Lem} {i:Nat},(∀ (j:Nat) m,L[j]?=some m->(s.pre (i+j)).lemB m=true)->uP s i L=true
 |[],_,_=>rfl| a::r,i,h=>by unfold uP;rw[show (s.pre i).lemB a=true from h 0 a rfl,mY (L:=r) (λj m hm=>by have:=h (j+1) m (by simpa using hm);rwa [show i+(j+1)=i+1+j by omega] at this)];rfl
def YT {s:Scp}{n:Nat}{x:Int}(h:x<=n)(u:Int)(up:Bool):(s.pre n).lem x u up=s.lem x u up:=by have e:(s.pre n).lems=s.lems.take n:=rfl;unfold Scp.lem;rw[e,kX];by_cases g:1<=x/\x<=s.lems.length;{rw[if_pos oM,if_pos g,List.getElem?_take,if_pos oM]};{rw[if_neg oM,if_neg g]}
def Uc {x y:xH}:∀ {l:List xH},y∈bH x l↔y=x\/y∈l
 |[]=>by simp[bH]| z::t=>by unfold bH;split;{rw[yG,Uc (l:=t),yG];grind};{simp}
def KT {y:xH}:∀ {l a:List xH},y∈l.foldl (λa x=>bH x a) a↔y∈l\/y∈a
 |[],a=>by simp| x::r,a=>by rw[Ds,KT (l:=r),Uc,yG];grind
def SZ {ls c:List xH}(h:mkP ls=some c):clG none c=true/\∀ x,x∈c↔x∈ls:=by unfold mkP at h;split at h;{rename_i g;cases h;exact⟨g,λx=>by rw[List.mem_reverse];unfold bG;rw[KT];simp⟩};{cases h}
def Fe:∀ {c:List xH} {p:Option Int},clG p c=true->∀ x,x∈c->0<=x.1/\x.1<1024
 |a::r,p,h,x,hx=>by unfold clG at h;simp only[yP,decide_eq_true_eq] at h;rcases yG.1 hx with rfl|g;{exact⟨h.1.1,h.1.2.1⟩};{exact Fe h.2 x g}
def GQ {s:Scp}:∀ {D:List Int} {acc ls:List xH},lgo s D acc=some ls->∀ z,z∈ls↔z∈acc\/∃ k,k∈D/\∃ x,lV (s.dec k)=some x/\z=(x.1,!x.2)
 |[],acc,ls,h,z=>by cases h;simp
 |k::r,acc,ls,h,z=>by
  unfold lgo at h;cases hx:lV (s.dec k) with
  |none=>rw[hx] at h;cases h
  |some x =>
   rw[hx] at h;rw[GQ h z];grind
def Bc:∀ {M:List Int} {i:Nat} {x:Int},M.Pairwise (·<·)->M[i]?=some x->ixI M x=i
 |a::r,0,x,_,h=>by simp only[Zx,mF] at h;show (if decide (x=a)=true then (0:Int) else _)=_;rw[if_pos (by simp[h])];rfl
 |a::r,i+1,x,hp,h=>by
  (obtain⟨h1,h2⟩:=cH.1 hp;have h:r[i]?=some x:=by simpa using h);have ih:=Bc h2 h
  have:=h1 x (z3 h);show (if decide (x=a)=true then (0:Int) else if ixI r x<0 then -1 else ixI r x+1)=_;grind
def Nk (M:List Int) (n:Nat) (x:Int):Prop:=x=0\/(1<=x/\x<=n/\x-1∈M)
def Gt {s t:Scp}{M:List Int}(hM:M.Pairwise (·<·))(hr:∀ x,x∈M->0<=x/\x<s.lems.length)(hq:t.q=s.q)(hl:t.lems=(M.map s.lemA).map (rnL M)){n j:Nat}(hj:∀ (i:Nat) x,M[i]?=some x->x<n->i<j):Rn (s.pre n) (t.pre j) (Co M) (Nk M n):=by
 have at_:∀ x,Nk M n x->x≠0->∃ i:Nat,M[i]?=some (x-1)/\Co M x=(i:Int)+1:=λx hx h0=>by obtain⟨h1,h2,h3⟩:=hx.resolve_left h0;obtain⟨i,hi⟩:=cR h3;refine⟨i,hi,?_⟩;unfold Co;rw[if_pos oM,Bc hM hi]
 refine⟨hq,rfl,.inl rfl,λa b ha hb hab=>?_,λx hx h0 u up=>?_⟩
 ·by_cases h0:a=0;{obtain⟨i,_,e⟩:=at_ b hb oM;rw[e,h0];show (0:Int)<_;omega}
  ·(have hb0:b≠0:=by have:=hb;have ha':=ha.resolve_left h0;omega);obtain⟨i,g1,e1⟩:=at_ a ha h0;obtain⟨k,g2,e2⟩:=at_ b hb hb0;rw[e1,e2];have:i<k:=by rcases Nat.lt_trichotomy i k with g|g|g;{exact g};{subst g;have e:=kF (g1.symm.trans g2);omega};{have:=HV.1 hM k i (wE.1 g2).1 (wE.1 g1).1 g;grind}
   omega
 ·(obtain⟨h1,h2,h3⟩:=hx.resolve_left h0;obtain⟨i,g1,e1⟩:=at_ x hx h0;have hij:=hj i (x-1) g1 oM;obtain⟨r1,r2⟩:=hr _ h3;obtain⟨m,hm⟩:=zS (l:=s.lems) (i:=(x-1).toNat) oM;have hA:s.lemA (x-1)=m:=by unfold Scp.lemA;rw[hm];rfl);rw[e1,YT oM,YT h2]
  (have hil:=(wE.1 g1).1;have ht:t.lems[((i:Int)+1-1).toNat]?=some (rnL M m):=by rw[hl,show ((i:Int)+1-1).toNat=i by omega,dH,dH,g1];show some (rnL M (s.lemA (x-1)))=_;rw[hA]);rw[i4 oM (by rw[hl,y4,y4];omega) ht,i4 oM oM hm];rfl
def VS {s:Scp}{l:List Mult}{y:Mult}(hy:y∈l\/∃ n,Reach s l n/\y∈s.pfn n):(0<=s.rowD y.row->cK s l (s.rowD y.row))/\∀ x,(x=y.row.lo\/x=y.row.hi)->1<=x->x<=s.lems.length->Reach s l (x-1):=by rcases hy with hy|⟨n,hn,hy⟩;{exact⟨λh=>.inl ⟨h,y,hy,rfl⟩,λx hx h1 h2=>.base ⟨by omega,by omega,y,hy,by omega⟩⟩};{exact⟨λh=>.inr ⟨n,hn,h,y,hy,rfl⟩,λx hx h1 h2=>.step hn ⟨by omega,by omega,y,hy,by omega⟩⟩}
def Rt {s:Scp}{k i:Int}(h:s.dcd k i=true):0<=s.fst k i/\∃ d,s.path[(s.fst k i).toNat]?=some d/\d.k=k/\d.i=i/\d.fits s.q=true:=by
 unfold Scp.fst;have key:∀ {l:List Dec},(l.any λd=>decide (d.k=k)&&(decide (d.i=i)&&d.fits s.q))=true->0<=v6 (λd=>decide (d.k=k)&&(decide (d.i=i)&&d.fits s.q)) l/\∃ d,l[(v6 (λd=>decide (d.k=k)&&(decide (d.i=i)&&d.fits s.q)) l).toNat]?=some d/\d.k=k/\d.i=i/\d.fits s.q=true:=by
  intro l;induction l with
  |nil=>intro h;cases h
  |cons a r ih =>
   intro h;rw[List.any_cons,Va] at h;rw[show v6 (λd=>decide (d.k=k)&&(decide (d.i=i)&&d.fits s.q)) (a::r)=if (decide (a.k=k)&&(decide (a.i=i)&&a.fits s.q))=true then 0 else if v6 (λd=>decide (d.k=k)&&(decide (d.i=i)&&d.fits s.q)) r<0 then -1 else v6 (λd=>decide (d.k=k)&&(decide (d.i=i)&&d.fits s.q)) r+1 from rfl];by_cases e:(decide (a.k=k)&&(decide (a.i=i)&&a.fits s.q))=true;{rw[if_pos e];simp only[yP,decide_eq_true_eq] at e;exact⟨by omega,a,rfl,e.1,e.2.1,e.2.2⟩};{rw[if_neg e];obtain⟨h1,d,h2,h3⟩:=ih (h.resolve_left e);rw[if_neg oM];refine⟨by omega,d,?_,h3⟩;rw[show (v6 (λd=>decide (d.k=k)&&(decide (d.i=i)&&d.fits s.q)) r+1).toNat=(v6 (λd=>decide (d.k=k)&&(decide (d.i=i)&&d.fits s.q)) r).toNat+1 by omega,Zw];exact h2}
 exact key h
def NX (s:Scp) (em:Bool) (l:List Mult) (c:List xH):Rsn:=⟨c,((vM (s.marks l).2).map s.lemA).map (rnL (vM (s.marks l).2)),em,l.map (rnP (vM (s.marks l).2))⟩
def KP {s:Scp}{p c0:Nat}(hw:Cw s p c0){l:List Mult}(hl:∀ m,m∈l->RoIn s m.row){em:Bool}(hs:s.scopeB=true)(hcl:s.closes em l=true){ls c:List xH}(hls:lgo s (vM (s.marks l).1) []=some ls)(hmk:mkP ls=some c):w4 s.q (NX s em l c)=true:=by
 obtain⟨m1,m2,m3,m4⟩:=iU hw.backs l;obtain⟨c1,c2⟩:=SZ hmk;have c3:=Fe c1;have lm:=GQ hls;have lu:=(Qi hls).1;unfold Scp.scopeB at hs;simp only[yP,pA] at hs;obtain⟨hv,hpf,hlf⟩:=hs;obtain⟨M,hM⟩:=ex (vM (s.marks l).2);have hMp:M.Pairwise (·<·):=by rw[<-hM];exact YX _
 have hMm:∀ x,x∈M↔Reach s l x:=λx=>by rw[<-hM,s9];constructor;{rintro⟨j,rfl,g1,g2⟩;exact (m3 j oM).1 g2};{intro h;have hr:=h.rng;refine⟨x.toNat,by omega,by omega,(m3 _ oM).2 ?_⟩;rwa [show ((x.toNat:Nat):Int)=x by omega]}
 have hMr:∀ x,x∈M->0<=x/\x<s.lems.length:=λx hx=>((hMm x).1 hx).rng;have hcm:∀ x,x∈c->0<=x.1/\x.1<s.q.g.us.length:=λx hx=>by
  rcases (lm x).1 ((c2 x).1 hx) with g|⟨k,hk,y,hy,rfl⟩;{cases g}
  ·(have h1:=lu k hk;obtain⟨g1,g2⟩:=Qn hk;obtain⟨d,hd⟩:=zS (l:=s.path) (i:=k.toNat) oM;have ed:s.dec k=d:=by unfold Scp.dec;rw[hd];rfl);have hf:=(hpf d (z3 hd)).2
   rw[ed] at hy h1;unfold lV at hy;unfold Dec.fits at hf;unfold uk at h1;grind
 have hdec:∀ {b:Bool} {i:Int},(i,b)∈c->(⟨s.q,c.map xM,(M.map s.lemA).map (rnL M)⟩:Scp).dcd (if (!b)=true then 1 else 2) i=true:=λ{b i} hx=>by unfold Scp.dcd;refine eH.2 ⟨xM (i,b),yZ.2 ⟨_,hx,rfl⟩,?_⟩;have:=lH (q:=s.q) (k:=if (!b)=true then 1 else 2) (i:=i) (by split <;> simp) (hcm _ hx);simp only[yP,decide_eq_true_eq];exact⟨rfl,rfl,this⟩
 have hrow:∀ {y:Mult} {g:F} {s':Scp},s'.path=s.path->s'.q=s.q->s'.fm y.row=some g->(y∈l\/∃ n,Reach s l n/\y∈s.pfn n)->y.row.k≠4/\(y.row.k=7\/y.row.k=8->y.row.lo=0->(⟨s.q,c.map xM,(M.map s.lemA).map (rnL M)⟩:Scp).dcd 1 y.row.i=s.dcd 1 y.row.i)/\(y.row.k=9\/y.row.k=10->y.row.hi=0->(⟨s.q,c.map xM,(M.map s.lemA).map (rnL M)⟩:Scp).dcd 2 y.row.i=s.dcd 2 y.row.i):=by
  (intro y g s' hp' hq' hg hy;obtain⟨u1,u2,u3⟩:=Bq hg;rw[hp'] at u1;have hdc:∀ k i,s'.dcd k i=s.dcd k i:=λk i=>by unfold Scp.dcd;rw[hp',hq']);rw[hdc] at u2 u3
  (obtain⟨q1,_⟩:=VS hy;have hD:∀ {k:Int},s.rowD y.row=k->0<=k->k∈vM (s.marks l).1:=λ{k} e h0=>by have h1:=q1 oM;rw[e] at h1;have h2:=hw.reachD hl h1;exact s9.2 ⟨k.toNat,by omega,by omega,(m4 _ oM).2 (by rwa [show ((k.toNat:Nat):Int)=k by omega])⟩);have hdd:∀ {kd i:Int},s.dcd kd i=true->(kd=1\/kd=2)->s.rowD y.row=s.fst kd i->(⟨s.q,c.map xM,(M.map s.lemA).map (rnL M)⟩:Scp).dcd kd i=true:=λ{kd i} h1 hk h2=>by
   (obtain⟨f1,d,f2,f3,f4,f5⟩:=Rt h1;have f6:=hD h2 f1;have ed:s.dec (s.fst kd i)=d:=by unfold Scp.dec;rw[f2];rfl);have hx:lV (s.dec (s.fst kd i))=some (i,decide (kd=1)):=by rw[ed];unfold lV;rw[if_pos oM,f4,f3]
   have:=hdec ((c2 _).2 ((lm _).2 (.inr ⟨_,f6,_,hx,rfl⟩)));rcases hk with rfl|rfl;{exact this};{exact this}
  refine⟨λh4=>?_,λhk h0=>?_,λhk h0=>?_⟩
  ·(obtain⟨d,g1,g2,g3⟩:=u1 h4;have:=lu _ (hD (k:=y.row.i) (by unfold Scp.rowD;rw[if_pos h4]) g1);have ed:s.dec y.row.i=d:=by unfold Scp.dec;rw[g2];rfl);rw[ed] at this
   unfold uk at this;omega
  {rw[u2 hk h0];exact hdd (u2 hk h0) (.inl rfl) (by unfold Scp.rowD;rw[if_neg oM,if_pos ⟨hk,h0⟩])};{rw[u3 hk h0];exact hdd (u3 hk h0) (.inr rfl) (by unfold Scp.rowD;rw[if_neg oM,if_neg oM,if_pos ⟨hk,h0⟩])}
 have hN:∀ {y:Mult} {n:Nat},n<=s.lems.length->(y∈l\/∃ n,Reach s l n/\y∈s.pfn n)->(0<=y.row.lo/\y.row.lo<=n)->(0<=y.row.hi/\y.row.hi<=n)->Nk M n y.row.lo/\Nk M n y.row.hi:=λ{y n} hn hy h1 h2=>by
  (obtain⟨_,q2⟩:=VS hy;have key:∀ x,(x=y.row.lo\/x=y.row.hi)->0<=x/\x<=n->Nk M n x:=λx hx h=>by by_cases h0:x=0;{exact .inl h0};{exact .inr ⟨by omega,h.2,(hMm _).2 (q2 x hx oM oM)⟩});exact⟨key _ (.inl rfl) h1,key _ (.inr rfl) h2⟩
 unfold NX w4;rw[hM];have hMl:M.length=((M.map s.lemA).map (rnL M)).length:=by simp
 have hclose:(⟨s.q,c.map xM,(M.map s.lemA).map (rnL M)⟩:Scp).closes em (l.map (rnP M))=true:=by
  (have r:=Gt (s:=s) (t:=⟨s.q,c.map xM,(M.map s.lemA).map (rnL M)⟩) hMp hMr rfl rfl (n:=s.lems.length) (j:=M.length) (λi x h _=>(wE.1 h).1);have e1:s.pre s.lems.length=s:=by unfold Scp.pre;rw[v9]);have e2:(⟨s.q,c.map xM,(M.map s.lemA).map (rnL M)⟩:Scp).pre M.length=⟨s.q,c.map xM,(M.map s.lemA).map (rnL M)⟩:=by unfold Scp.pre;show (⟨s.q,c.map xM,((M.map s.lemA).map (rnL M)).take M.length⟩:Scp)=_;rw[hMl,v9]
  rw[e1,e2] at r;rw[<-hcl];exact r.closes (λy hy=>by obtain⟨g,hg⟩:=nE hcl y hy;obtain⟨w1,w2,w3⟩:=hrow rfl rfl hg (.inl hy);have hin:=hl y hy;obtain⟨n1,n2⟩:=hN (yD _) (.inl hy) hin.lo hin.hi;exact⟨n1,n2,w1,w2,w3⟩) em
 have hscope:(⟨s.q,c.map xM,(M.map s.lemA).map (rnL M)⟩:Scp).scopeB=true:=by
  unfold Scp.scopeB;simp only[yP,pA];refine⟨hv,λd hd=>⟨hv,?_⟩,mY (λj m hm=>?_)⟩;{obtain⟨x,hx,rfl⟩:=yZ.1 hd;exact lH (by split <;> simp) (hcm x hx)}
  ·rw[jW];rw[dH,dH] at hm;cases hx:M[j]? with
   |none=>rw[hx] at hm;cases hm
   |some n =>
    (rw[hx] at hm;have hm:rnL M (s.lemA n)=m:=kF hm;have hn:=hMr n (z3 hx);have hrn:=(hMm n).1 (z3 hx);obtain⟨a,ha⟩:=zS (l:=s.lems) (i:=n.toNat) oM;have eA:s.lemA n=a:=by unfold Scp.lemA;rw[ha];rfl);have ep:s.pfn n=a.pf:=by unfold Scp.pfn;rw[ha];rfl
    have hb:=rU hlf ha;rw[jW] at hb;have r:=Gt (s:=s) (t:=⟨s.q,c.map xM,(M.map s.lemA).map (rnL M)⟩) hMp hMr rfl rfl (n:=n.toNat) (j:=j) (λi x h hlt=>by
     rcases kV i j with g|g;{exact g}
     ·rcases HU g with g|g;{have:=HV.1 hMp j i (wE.1 hx).1 (wE.1 h).1 g;grind}
      ·subst g;rw[hx] at h;cases h;omega)
    rw[<-hb,<-hm,eA];exact r.lemB (λy hy=>by have hy':y∈l\/∃ n,Reach s l n/\y∈s.pfn n:=.inr ⟨n,hrn,by rw[ep];exact hy⟩;obtain⟨g,hg⟩:=Z0 hb y hy;obtain⟨w1,w2,w3⟩:=hrow (s':=s.pre n.toNat) rfl rfl hg hy';have hin:=hw.r n.toNat a ha y hy;have hlo:=hin.lo;have hhi:=hin.hi;simp only[kX] at hlo hhi;obtain⟨n1,n2⟩:=hN (n:=n.toNat) oM hy' oM oM;exact⟨n1,n2,w1,w2,w3⟩) rfl
 have hlast:bZ s.q c=true:=by unfold bZ;split;{rename_i x hx;exact decide_eq_true (hcm x (z3 hx)).2};{rfl}
 show (s.q.valid&&(clG none c&&(bZ s.q c&&((⟨s.q,c.map xM,(M.map s.lemA).map (rnL M)⟩:Scp).scopeB&&(⟨s.q,c.map xM,(M.map s.lemA).map (rnL M)⟩:Scp).closes em (l.map (rnP M))))))=true;rw[hv,c1,hlast,hscope,hclose];rfl
def Za {s:Scp}{p c0:Nat}(hw:Cw s p c0){l:List Mult}(hl:∀ m,m∈l->RoIn s m.row){em:Bool}(h:(vW s em l).2=0):w4 s.q (vW s em l).1=true:=by
 unfold vW at h ⊢;by_cases h1:s.scopeB=false;{rw[if_pos h1] at h;cases h};rw[if_neg h1] at h ⊢;by_cases h2:s.closes em l=false;{rw[if_pos h2] at h;cases h};rw[if_neg h2] at h ⊢;cases hls:lgo s (vM (s.marks l).1) [] with
 |none=>rw[hls] at h;cases h
 |some ls =>
  rw[hls] at h;dsimp only at h ⊢;cases hmk:mkP ls with
  |none=>rw[hmk] at h;cases h
  |some c=>exact KP hw hl (by simpa using h1) (by simpa using h2) hls hmk
def Aa:∀ {c:List xH} {p:Option Int},clG p c=true->c.Pairwise (λa b=>a.1<b.1)/\∀ q,p=some q->∀ x,x∈c->q<x.1
 |[],p,_=>⟨List.Pairwise.nil,λq _ x hx=>absurd hx (by simp)⟩| a::r,p,h=>by
  (unfold clG at h;simp only[yP,decide_eq_true_eq] at h;obtain⟨⟨g1,g2,g3⟩,g4⟩:=h;obtain⟨i1,i2⟩:=Aa g4;have i3:=i2 a.1 rfl;refine⟨cH.2 ⟨i3,i1⟩,λq hq x hx=>?_⟩;subst hq;have g3:q<a.1:=by simpa using g3);rcases yG.1 hx with rfl|g
  {exact g3};{have:=i3 x g;omega}
structure Bds (s:Scp) (v:Int) (up:Bool) (b:Bd):Prop where
 av:AV s b.2
 p:∀ t,t∈b.2->0<=t.2
 c:∀ w,SC s w b.2=if up=true then-dlt v w else dlt v w
 k:SK s b.2=if up=true then b.1.q else-b.1.q
def Dl {s:Scp}{v:Int}{up:Bool}{y:R}{r:Row}{f:F}(h:s.fm r=some f)(hc:∀ w,co f.ts w=if up=true then-dlt v w else dlt v w)(hk:f.c=if up=true then y.q else-y.q):Bds s v up (y,[(r,1)]) :=
 ⟨λt ht=>by rw[kJ.1 ht];exact⟨_,h⟩,λt ht=>by rw[kJ.1 ht];show (0:Rat)<=1;decide,λw=>by
  show 1*co (fmD s r).ts w+0=_;rw[u9 h,<-hc w];grind,by
  show 1*(fmD s r).c+0=_;rw[u9 h,<-hk];grind⟩
def MG {s:Scp}{v:Int}{up:Bool}{y:R}{r r':Row}{a b:Rat}{f g:F}(h:s.fm r=some f)(h':s.fm r'=some g)(ha:0<=a)(hb:0<=b)(hc:∀ w,a*co f.ts w+b*co g.ts w=if up=true then-dlt v w else dlt v w)(hk:a*f.c+b*g.c=if up=true then y.q else-y.q):Bds s v up (y,[(r,a),(r',b)]) :=
 ⟨λt ht=>by
  rcases yG.1 ht with rfl|ht;{exact⟨_,h⟩}
  ·rw[kJ.1 ht];exact⟨_,h'⟩,λt ht=>by
  rcases yG.1 ht with rfl|ht;{exact ha}
  ·rw[kJ.1 ht];exact hb,λw=>by
  show a*co (fmD s r).ts w+(b*co (fmD s r').ts w+0)=_;rw[u9 h,u9 h',<-hc w];grind,by
  show a*(fmD s r).c+(b*(fmD s r').c+0)=_;rw[u9 h,u9 h',<-hk];grind⟩
def dM (f g:F):(f.sub g).c=f.c-g.c:=by show f.c+g.c * -1=_;grind
def cX (f:F)(c:Rat):(f.scale c).c=f.c*c:=by show 0+f.c*c=_;grind
def Ld (f g:F):(f.add g).c=f.c+g.c:=by show f.c+g.c*1=_;grind
def aC (v:Int):(F.var v).c=0:=rfl
def t6 (q:Rat):(F.num q).c=q:=rfl
def G5 {s:Scp}(hv:s.q.valid=true){k:Nat}{d:Dec}(hd:s.path[k]?=some d)(hf:d.fits s.q=true)(hk:d.k=3\/d.k=4):s.fm ⟨4,k,0,0⟩=some (if d.k=3 then (F.var d.i).sub (F.num d.x.q) else ((F.var d.i).sub (F.num d.x.q)).scale (-1)):=by
 unfold Scp.fm;rw[if_neg (by grind),if_pos (by grind)];unfold Scp.fIn;rw[if_pos ⟨rfl,by grind⟩,if_neg (by grind),if_neg (by grind),if_neg (by grind),if_pos rfl];show (match s.path[((k:Int)).toNat]? with
   |some d=>if d.fits s.q=true then (if d.k=3 then some ((F.var d.i).sub (F.num d.x.q)) else if d.k=4 then some (((F.var d.i).sub (F.num d.x.q)).scale (-1)) else none) else none| none=>none)=_
 rw[show ((k:Int)).toNat=k by omega,hd];grind
def GY {s:Scp}(hv:s.q.valid=true){i:Int}{up:Bool}:∀ {l:List Dec} {k:Nat} {b:Bd},l=s.path.drop k->Bds s i up b->Bds s i up (inG s.q up i k l b)
 |[],k,b,_,h=>h| d::r,k,b,hl,h=>by
  have hd:s.path[k]?=some d:=by
   (have:(s.path.drop k)[0]?=some d:=by grind);grind
  have hr:r=s.path.drop (k+1):=by
   (have:(s.path.drop k).drop 1=s.path.drop (k+1):=by simp_all);grind
  unfold inG;refine GY hv hr ?_;cases up with
  |true =>
   simp only[↓reduceIte];split;{rename_i g;obtain⟨g1,rfl,g3,g4⟩:=g;refine Dl (G5 hv hd g3 (.inr g1)) (λw=>?_) ?_;{rw[if_neg oM,if_pos rfl,vS,uR,uQ,kR];grind};{rw[if_neg oM,if_pos rfl,cX,dM,aC,t6];grind}};{exact h}
  |false =>
   simp only[Bool.false_eq_true,↓reduceIte];split;{rename_i g;obtain⟨g1,rfl,g3,g4⟩:=g;refine Dl (G5 hv hd g3 (.inl g1)) (λw=>?_) ?_;{rw[if_pos g1,if_neg (by decide),uR,uQ,kR];grind};{rw[if_pos g1,if_neg (by decide),dM,aC,t6];grind}};{exact h}
def Re {s:Scp}(hv:s.q.valid=true){i:Nat}(h1:i<s.q.r.lo.length)(h2:i<s.q.r.hi.length)(up:Bool):Bds s i up (s.inB i up):=by
 obtain⟨a,ha⟩:=zS h1;obtain⟨b,hb⟩:=zS h2;unfold Scp.inB;refine GY hv (by simp) ?_;cases up with
 |true =>
  rw[if_pos rfl,show ((i:Int)).toNat=i by omega,hb];refine Dl (Bu hv hb) (λw=>?_) ?_;{rw[if_pos rfl,uR,uQ,kR];grind};{rw[if_pos rfl,dM,aC,t6];show b.q-0=b.q;grind}
 |false =>
  rw[if_neg (by decide),show ((i:Int)).toNat=i by omega,ha];refine Dl (Bt hv ha) (λw=>?_) ?_;{rw[if_neg (by decide),uR,uQ,kR];grind};{rw[if_neg (by decide),dM,aC,t6];show 0-a.q=- a.q;grind}
def Hx {s:Scp}{j:Int}(h:(s.best j).1≠0):s.lem ((s.best j).1:Nat) j false=some (s.vLo j):=by obtain⟨m,h1,h2,h3⟩:=(Y6 s j).1 h;exact p6 h h1 h2 h3
def Hy {s:Scp}{j:Int}(h:(s.best j).2≠0):s.lem ((s.best j).2:Nat) j true=some (s.vHi j):=by obtain⟨m,h1,h2,h3⟩:=(Y6 s j).2 h;exact p6 h h1 h2 h3
structure Uf (s:Scp) (j:Nat) (p:F):Prop where
 r5:s.fm ⟨5,j,0,0⟩=some (F.var (s.q.g.n+j))
 r6:s.fm ⟨6,j,0,0⟩=some ((F.var (s.q.g.n+j)).sub p)
 on:(s.onR j).2=true->s.fm (s.onR j).1=some (p.sub (F.var (s.q.g.n+j)))
 off:(s.offR j).2=true->s.fm (s.offR j).1=some ((F.var (s.q.g.n+j)).scale (-1))
 r11:(s.best j).1≠0->s.fm ⟨11,j,(s.best j).1,0⟩=some (p.sub (F.num (s.vLo j)))
 r12:(s.best j).2≠0->s.fm ⟨12,j,0,(s.best j).2⟩=some ((F.num (s.vHi j)).sub p)
 r13:(s.best j).1≠0->(s.best j).2≠0->s.vLo j<0->0<s.vHi j->s.fm ⟨13,j,(s.best j).1,(s.best j).2⟩=some (((p.sub (F.num (s.vLo j))).scale (s.vHi j)).sub ((F.var (s.q.g.n+j)).scale (s.vHi j-s.vLo j)))
 nOn:(s.onR j).2=false->(s.best j).1≠0->s.vLo j<0
 nOff:(s.offR j).2=false->(s.best j).2≠0->0<s.vHi j
def RU {s:Scp}(hv:s.q.valid=true){j:Nat}{p:F}(hp:s.q.g.us[j]?=some (fA p)):Uf s j p where
 r5:=by rw[uE hv (by decide) (by decide) hp];rfl
 r6:=by rw[uE hv (by decide) (by decide) hp];rfl
 on h:=by unfold Scp.onR at h ⊢;by_cases e:s.dcd 1 (j:Int)=true;{rw[if_pos e];rw[uE hv (by decide) (by decide) hp];show (if onB s ⟨8,j,0,0⟩ _ _=true then _ else none)=_;rw[if_pos (by grind [onB])]};{rw[if_neg e] at h ⊢;have h':(decide (0<(s.best j).1)&&decide (0<=yA (s.vLo j)))=true:=h;simp only[yP,decide_eq_true_eq] at h';show s.fm ⟨8,j,(s.best j).1,0⟩=_;rw[uE hv (by decide) (by decide) hp,Hx oM];show (if onB s ⟨8,j,(s.best j).1,0⟩ (s.vLo j) true=true then _ else none)=_;rw[if_pos (by grind [onB])]}
 off h:=by unfold Scp.offR at h ⊢;by_cases e:s.dcd 2 (j:Int)=true;{rw[if_pos e];rw[uE hv (by decide) (by decide) hp];show (if pZ s ⟨10,j,0,0⟩ _ _=true then _ else none)=_;rw[if_pos (by grind [pZ])]};{rw[if_neg e] at h ⊢;have h':(decide (0<(s.best j).2)&&decide (yA (s.vHi j)<=0))=true:=h;simp only[yP,decide_eq_true_eq] at h';show s.fm ⟨10,j,0,(s.best j).2⟩=_;rw[uE hv (by decide) (by decide) hp,Hy oM];show (if pZ s ⟨10,j,0,(s.best j).2⟩ (s.vHi j) true=true then _ else none)=_;rw[if_pos (by grind [pZ])]}
 r11 h:=by rw[uE hv (by decide) (by decide) hp,Hx h];rfl
 r12 h:=by rw[uE hv (by decide) (by decide) hp,Hy h];rfl
 r13 h1 h2 h3 h4:=by rw[uE hv (by decide) (by decide) hp,Hx h1,Hy h2];show (if _/\_/\_/\_ then _ else none)=_;grind [cL,jZ]
 nOn h h1:=by unfold Scp.onR at h;split at h;{cases h};{have h':(decide (0<(s.best j).1)&&decide (0<=yA (s.vLo j)))=false:=h;simp only[Bool.and_eq_false_iff,decide_eq_false_iff_not] at h';exact cL.1 oM}
 nOff h h1:=by unfold Scp.offR at h;split at h;{cases h};{have h':(decide (0<(s.best j).2)&&decide (yA (s.vHi j)<=0))=false:=h;simp only[Bool.and_eq_false_iff,decide_eq_false_iff_not] at h';exact jZ.1 oM}
def NQ:R0.q=0:=by have:=z6 0;rw[uJ] at this;exact this
def Rc {s:Scp}{j:Nat}{p:F}(u:Uf s j p):Bds s (s.q.g.n+j) false (s.leB j):=by unfold Scp.leB;split;{refine Dl u.r5 (λw=>?_) ?_;{rw[if_neg (by decide),uQ]};{rw[if_neg (by decide),aC,NQ];grind}};{rename_i h;refine MG u.r6 (u.r11 oM) (by decide) (by decide) (λw=>?_) ?_;{rw[if_neg (by decide),uR,uR,uQ,kR];grind};{rw[if_neg (by decide),dM,dM,aC,t6,z6];grind}}
def SX {s:Scp}{j:Nat}{p:F}(u:Uf s j p){b:Bd}(h:s.moB j=some b):Bds s (s.q.g.n+j) true b:=by
 unfold Scp.moB at h;split at h;{rename_i h1;cases h;refine Dl (u.off h1) (λw=>?_) ?_;{rw[if_pos rfl,vS,uQ];grind};{rw[if_pos rfl,cX,aC,NQ];grind}}
 ·(rename_i h1;have h1:(s.offR j).2=false:=by grind);split at h
  {cases h}
  ·rename_i h2;have hu:=u.nOff h1 oM;split at h;{rename_i h3;cases h;refine MG (u.on h3) (u.r12 oM) (by decide) (by decide) (λw=>?_) ?_;{rw[if_pos rfl,uR,uR,uQ,kR];grind};{rw[if_pos rfl,dM,dM,aC,t6,z6];grind}}
   ·(rename_i h3;have h3:(s.onR j).2=false:=by grind);have h4:(s.best j).1≠0:=by grind
    (have h5:(s.best j).2≠0:=by grind);have hl:=u.nOn h3 h4
    (cases h;have f12:=u.r12 h5;have f13:=u.r13 h4 h5 hl hu;generalize s.vHi j=U at *;generalize s.vLo j=L at *;have hinv:0<1/(U-L):=by rw[jD,Rat.one_mul];exact Rat.inv_pos.2 (by grind));have hone:1/(U-L)*(U-L)=1:=by
     (have:U-L≠0:=by grind);grind
    generalize 1/(U-L)=d at *;refine MG f12 f13 (nI (Rat.mul_pos hinv hu)) (nI hinv) (λw=>?_) ?_;{rw[if_pos rfl,uR,uR,vS,vS,uR,uQ,kR,kR];grind};{rw[if_pos rfl,dM,dM,cX,cX,dM,aC,t6,t6,z6];grind}
def Jr {s:Scp}:∀ {ts:List (Int×Rat)} {a:Rat} {l:List (Row×Rat)} {a':Rat} {l':List (Row×Rat)},(∀ t,t∈ts->∀ up b,s.ofB t.1 up=some b->Bds s t.1 up b)->AV s l->s.boxL ts a l=some (a',l')->AV s l'/\(∀ w,SC s w l'=SC s w l+co ts w)/\SK s l'+a'=SK s l+a
 |[],a,l,a',l',_,ha,h=>by cases h;exact⟨ha,λw=>by show _=_+(0:Rat);grind,rfl⟩
 |t::r,a,l,a',l',hB,ha,h=>by
  unfold Scp.boxL at h;cases hb:s.ofB t.1 (decide (yA t.2<0)) with
  |none=>rw[hb] at h;cases h
  |some b =>
   rw[hb] at h;have B:=hB t wI _ _ hb;obtain⟨g1,g2,g3⟩:=Jr (λu hu=>hB u (wJ _ hu)) (ZD B.av ha) h;have hc:=B.c;have hk:=B.k;rw[ZB] at g3;by_cases e:t.2<0;{rw[decide_eq_true (cL.2 e)] at hc hk;have ea:vI t.2=-t.2:=if_pos e;rw[ea] at g2 g3;simp only[↓reduceIte] at hc hk;refine⟨g1,λw=>?_,?_⟩;{rw[g2 w,nJ,hc w];show _=_+((if t.1=w then t.2 else 0)+co r w);unfold dlt;grind};{rw[g3,hk];grind}};{rw[decide_eq_false (λq=>e (cL.1 q))] at hc hk;have ea:vI t.2=t.2:=if_neg e;rw[ea] at g2 g3;simp only[Bool.false_eq_true,↓reduceIte] at hc hk;refine⟨g1,λw=>?_,?_⟩;{rw[g2 w,nJ,hc w];show _=_+((if t.1=w then t.2 else 0)+co r w);unfold dlt;grind};{rw[g3,hk];grind}}
structure Yok (y:FQry):Prop where
 ok:y.ok
 v:y.q.valid=true
 bs:y.r.bs.length=y.g.n
 n2:y.g.n<=1000
 us:y.g.us.length<=1000
theorem Yok.get {y:FQry}{s:Scp}(hq:s.q=y.q){j:Nat}{p:F}(hp:y.g.us[j]?=some p):s.q.g.us[j]?=some (fA p):=by rw[hq];show (y.g.us.map fA)[j]?=_;rw[dH,hp];rfl
def SU {y:FQry}{s:Scp}(hy:Yok y)(hq:s.q=y.q){v:Int}(h0:0<=v)(h1:v<((y.g.n+y.g.us.length:Nat):Int)){up:Bool}{b:Bd}(h:s.ofB v up=some b):Bds s v up b:=by
 have hv:s.q.valid=true:=by rw[hq];exact hy.v
 have hn:s.q.g.n=(y.g.n:Int):=by rw[hq];rfl
 have hbs:=hy.bs;unfold Scp.ofB at h;by_cases e:v<s.q.g.n
 ·(rw[if_pos e] at h;cases h;obtain⟨i,rfl⟩:∃ i:Nat,v=i:=⟨v.toNat,by omega⟩;have l1:s.q.r.lo.length=y.r.bs.length:=by rw[hq];show (y.r.bs.map _).length=_;rw[y4]);have l2:s.q.r.hi.length=y.r.bs.length:=by rw[hq];show (y.r.bs.map _).length=_;rw[y4]
  exact Re hv oM oM up
 ·rw[if_neg e] at h;obtain⟨j,rfl⟩:∃ j:Nat,v=s.q.g.n+j:=⟨(v-s.q.g.n).toNat,by omega⟩;rw[show s.q.g.n+(j:Int)-s.q.g.n=(j:Int) by omega] at h;obtain⟨p,hp⟩:=zS (l:=y.g.us) (i:=j) oM;have u:=RU hv (Yok.get hq hp);cases up with
  |true=>exact SX u h| false=>cases h;exact Rc u
structure Dv (s:Scp) (f:F) (v:Rat×List (Row×Rat)):Prop where
 av:AV s v.2
 rs:Rs v.2
 c:∀ w,SC s w v.2=co f.ts w
 k:SK s v.2+v.1=f.c
def Af {y:FQry}{s:Scp}(hy:Yok y)(hq:s.q=y.q){f:F}(hf:f.wf ((y.g.n+y.g.us.length:Nat):Int)){v:Rat×List (Row×Rat)}(h:s.box f=some v):Dv s f v:=by obtain⟨a,l⟩:=v;have hB:∀ t,t∈f.ts->∀ up b,s.ofB t.1 up=some b->Bds s t.1 up b:=λt ht up b hb=>SU hy hq (hf.v t ht).1 (hf.v t ht).2 hb;obtain⟨g1,g2,g3⟩:=Jr hB (λt ht=>absurd ht (by simp)) h;refine⟨g1,QL (λt ht up b hb=>(hB t ht up b hb).p) Rs.nil h,λw=>?_,?_⟩;{rw[g2 w];show (0:Rat)+_=_;grind};{rw[g3];show (0:Rat)+_=_;grind}
def H0 (n:Int):F.zero.wf n:=⟨Cn.nil,λt ht=>absurd ht (by simp[F.zero])⟩
def Ct {s:Scp}{j:Nat}{p:F}(u:Uf s j p){m:Int}(hw:p.wf m){c:Rat}(h0:¬yA c=0){y:Row×F×Rat}(h:s.repl p c j=some y):y.2.1.wf m/\∃ g,s.fm y.1=some g/\0<=y.2.2/\(∀ w,c*dlt (s.q.g.n+j) w=c*co y.2.1.ts w+y.2.2*co g.ts w)/\c*y.2.1.c+y.2.2*g.c=0:=by
 have apos:0<c->vI c=c:=λe=>if_neg (by grind);have aneg:c<0->vI c=-c:=λe=>if_pos e;have hne:¬c=0:=λe=>h0 (by rw[e];decide);unfold Scp.repl at h;split at h
 ·rename_i h1;cases h;refine⟨hw,?_⟩;by_cases e:0<yA c;{have e':=jZ.1 e;rw[if_pos e,apos e'];refine⟨_,u.r6,nI e',λw=>?_,?_⟩;{rw[uR,uQ];grind};{rw[dM,aC];grind}}
  ·(have e':c<0:=by have:¬0<c:=λq=>e (jZ.2 q);grind);rw[if_neg e,aneg e'];refine⟨_,u.on h1,by grind,λw=>?_,?_⟩;{rw[uR,uQ];grind};{rw[dM,aC];grind}
 ·(rename_i h1;have h1:(s.onR j).2=false:=by grind);split at h
  ·rename_i h2;cases h;refine⟨H0 m,?_⟩;by_cases e:yA c<0;{have e':=cL.1 e;rw[if_pos e,aneg e'];refine⟨_,u.off h2,by grind,λw=>?_,?_⟩;{rw[vS,uQ];show _=c*0+_;grind};{rw[cX,aC];show c*0+_=_;grind}}
   ·(have e':0<c:=by have:¬c<0:=λq=>e (cL.2 q);grind);rw[if_neg e,apos e'];refine⟨_,u.r5,nI e',λw=>?_,?_⟩;{rw[uQ];show _=c*0+_;grind};{rw[aC];show c*0+_=_;grind}
  ·(rename_i h2;have h2:(s.offR j).2=false:=by grind);split at h
   {rename_i h3;have e':=jZ.1 h3;rw[apos e'] at h;split at h;{cases h;refine⟨hw,_,u.r6,nI e',λw=>?_,?_⟩;{rw[uR,uQ];grind};{rw[dM,aC];grind}};{cases h;refine⟨H0 m,_,u.r5,nI e',λw=>?_,?_⟩;{rw[uQ];show _=c*0+_;grind};{rw[aC];show c*0+_=_;grind}}}
   ·(rename_i h3;have e':c<0:=by have:¬0<c:=λq=>h3 (jZ.2 q);grind);rw[aneg e'] at h;split at h;{cases h}
    ·(rename_i h4;have k1:(s.best j).1≠0:=by grind);have k2:(s.best j).2≠0:=by grind
     have hl:=u.nOn h1 k1;have hu:=u.nOff h2 k2;cases h;have f13:=u.r13 k1 k2 hl hu;generalize s.vHi j=U at *;generalize s.vLo j=L at *;refine⟨F.wf.add hw.scale (F.wf.num _ _),_,f13,?_,λw=>?_,?_⟩;{rw[jD];exact nI (Rat.mul_pos (by grind) (Rat.inv_pos.2 (by grind)))};{have hone:(U-L)⁻¹*(U-L)=1:=Rat.inv_mul_cancel _ (by grind);rw[Z7,vS,kR,uR,vS,vS,uR,uQ,kR,jD,jD];generalize (U-L)⁻¹=d at *;generalize co p.ts w=P at *;generalize dlt (s.q.g.n+j) w=D at *;grind};{have hone:(U-L)⁻¹*(U-L)=1:=Rat.inv_mul_cancel _ (by grind);rw[Ld,cX,t6,dM,cX,cX,dM,aC,t6,jD,jD,jD];generalize (U-L)⁻¹=d at *;grind}
structure Bk (s:Scp) (f:F) (y:F×List (Row×Rat)):Prop where
 av:AV s y.2
 rs:Rs y.2
 c:∀ w,co f.ts w=co y.1.ts w+SC s w y.2
 k:f.c=y.1.c+SK s y.2
def SO {s:Scp}{j:Nat}{p:F}(u:Uf s j p){n:Nat}(hn:s.q.g.n=(n:Int))(hw:p.wf ((n+j:Nat):Int)){f:F}{y z:F×List (Row×Rat)}(hy:Bk s f y)(hyw:y.1.wf ((n+j+1:Nat):Int))(h:s.rep1 p j y=some z):Bk s f z/\z.1.wf ((n+j:Nat):Int):=by
 have e:s.q.g.n+(j:Int)=((n+j:Nat):Int):=by omega
 unfold Scp.rep1 at h;split at h;{rename_i h0;cases h;rw[e] at h0;exact⟨hy,Uz hyw (Gc h0)⟩}
 ·rename_i h0;cases hr:s.repl p (co y.1.ts (s.q.g.n+j)) j with
  |none=>rw[hr] at h;cases h
  |some v =>
   rw[hr] at h;cases h;obtain⟨r1,g,r2,r3,r4,r5⟩:=Ct u hw h0 hr;rw[e] at r4 r5;refine⟨⟨Fr ⟨g,r2⟩ hy.av,Gy hy.rs r3,λw=>?_,?_⟩,by rw[e];exact Q9 hyw r1⟩;{have:=r4 w;unfold dlt at this;rw[hy.c w,Fq,u9 r2,e,Ka hyw.cn];grind};{rw[hy.k,Fp,u9 r2,e];show _=(y.1.c+(0+v.2.1.c*co y.1.ts ((n+j:Nat):Int))*1)+_;grind}
def Jw {y:FQry}{s:Scp}(hy:Yok y)(hq:s.q=y.q){f:F}:∀ {i:Nat} {a z:F×List (Row×Rat)},Bk s f a->a.1.wf ((y.g.n+i:Nat):Int)->s.backG i a=some z->Bk s f z/\z.1.wf ((y.g.n:Nat):Int)
 |0,a,z,ha,hw,h=>by cases h;exact⟨ha,hw⟩
 |i+1,a,z,ha,hw,h=>by
  unfold Scp.backG at h;cases hp:s.q.g.us[i]? with
  |none=>rw[hp] at h;cases h
  |some p =>
   rw[hp] at h;obtain⟨g,hg,rfl⟩:=UE (x:=y) (by rw[hq]) hp;cases hr:s.rep1 (fA g).f i a with
   |none=>simp only[hr] at h;cases h
   |some b =>
    simp only[hr] at h;rw[qG] at hr;obtain⟨g1,g2⟩:=SO (RU (by rw[hq];exact hy.v) hp) (by rw[hq];rfl) (hy.ok.us i g hg) ha hw hr;exact Jw hy hq g1 g2 h
def TZ {y:FQry}{s:Scp}(hy:Yok y)(hq:s.q=y.q){f:F}(hf:f.wf ((y.g.n+y.g.us.length:Nat):Int)){v:Rat×List (Row×Rat)}(h:s.low f=some v):Dv s f v:=by
 unfold Scp.low at h;obtain⟨g,hg,rfl⟩:=pB.1 h;have hul:s.q.g.us.length=y.g.us.length:=by rw[hq];show (y.g.us.map fA).length=_;rw[y4]
 have hn:s.q.g.n=(y.g.n:Int):=by rw[hq];rfl
 unfold Scp.back at hg;rw[hul] at hg;obtain⟨k,w⟩:=Jw hy hq (f:=f) ⟨λt ht=>absurd ht (by simp),Rs.nil,λw=>by show _=_+(0:Rat);grind,by show _=_+(0:Rat);grind⟩ hf hg;have hb:(s.box g.1).isSome=true:=Ya λt ht up=>by unfold Scp.ofB;rw[if_pos (by have:=(w.v t ht).2;omega)];rfl
 obtain⟨b,hb⟩:=JI.1 hb;have d:=Af hy hq (w.mono oM) hb;rw[hb];show Dv s f (b.1,xR g.2 b.2 1);refine⟨ZD d.av k.av,ZC (by decide) (λt ht=>nI (d.rs.p t ht)) k.rs,λw=>?_,?_⟩;{rw[nJ,k.c w,d.c w];grind};{have h1:=d.k;have h2:=k.k;show SK s (xR g.2 b.2 1)+b.1=f.c;rw[ZB];grind}
def BY {y:FQry}{s:Scp}(hy:Yok y)(hq:s.q=y.q){f:F}(hf:f.wf ((y.g.n+y.g.us.length:Nat):Int)){n:Nat}{v:Rat×List (Row×Rat)}(h:s.dom n f=some v):Dv s f v:=by unfold Scp.dom at h;split at h;{exact Af hy hq hf h};{exact TZ hy hq hf h}
def Rq {y:FQry}(hy:Yok y){path:List Dec}{L M:List Lem}{j:Nat}{p:F}(hp:y.g.us[j]?=some p){v:Rat×List (Row×Rat)}(h:Dv ⟨y.q,path,L⟩ p v):(⟨y.q,path,L⟩:Scp).lemB ⟨j,false,zI v.1,mR v.2⟩=true:=by
 have hjl:=(wE.1 hp).1;have hn2:=hy.n2;have hu4:=hy.us;have hwf:=hy.ok.us j p hp;have e0:y.q.g.us[((j:Int)).toNat]?=some (fA p):=by show (y.g.us.map fA)[((j:Int)).toNat]?=_;grind
 unfold Scp.lemB;dsimp only;rw[e0,hy.v,rS,decide_eq_true ⟨by omega,by grind⟩];dsimp only;rw[qG];have ef:(⟨j,false,zI v.1,mR v.2⟩:Lem).form p=p.sub (F.num v.1):=by unfold Lem.form;rw[if_neg (by grind),z6]
 have hk:=h.k;rw[ef];rw[VU (N:=((y.g.n+j:Nat):Int)) rfl hy.ok h.rs h.av (F.wf.sub hwf (F.wf.num _ _)) oM (λw=>?_) ?_];{rfl};{rw[dM,t6];grind};{rw[uR,kR,h.c w];grind}
def Mw {y:FQry}(hy:Yok y){path:List Dec}{L M:List Lem}{j:Nat}{p:F}(hp:y.g.us[j]?=some p){v:Rat×List (Row×Rat)}(h:Dv ⟨y.q,path,L⟩ (p.scale (-1)) v):(⟨y.q,path,L⟩:Scp).lemB ⟨j,true,zI (-v.1),mR v.2⟩=true:=by
 have hjl:=(wE.1 hp).1;have hn2:=hy.n2;have hu4:=hy.us;have hwf:=hy.ok.us j p hp;have e0:y.q.g.us[((j:Int)).toNat]?=some (fA p):=by show (y.g.us.map fA)[((j:Int)).toNat]?=_;grind
 unfold Scp.lemB;dsimp only;rw[e0,hy.v,rS,decide_eq_true ⟨by omega,by grind⟩];dsimp only;rw[qG];have ef:(⟨j,true,zI (-v.1),mR v.2⟩:Lem).form p=(p.sub (F.num (-v.1))).scale (-1):=by unfold Lem.form;rw[if_pos rfl,z6]
 have hk:=h.k;rw[cX] at hk;rw[ef];rw[VU (N:=((y.g.n+j:Nat):Int)) rfl hy.ok h.rs h.av (F.wf.scale (F.wf.sub hwf (F.wf.num _ _))) oM (λw=>?_) ?_];{rfl};{rw[cX,dM,t6];grind};{rw[vS,uR,kR,h.c w,vS];grind}
def VL {y:FQry}(hy:Yok y){path:List Dec}{L:List Lem}{n j:Nat}{p:F}(hp:y.g.us[j]?=some p)(up:Bool)(h:Ve y.q path L):Ve y.q path (runS n ⟨y.q,path,L⟩ j up (if up=true then p.scale (-1) else p)).lems:=by
 have hjl:=(wE.1 hp).1;have hwf:=hy.ok.us j p hp;show Ve y.q path (L++runL _ _ _ _);cases hd:(⟨y.q,path,L⟩:Scp).dom n (if up=true then p.scale (-1) else p) with
 |none=>simpa[runL] using h| some v =>
  unfold runL;dsimp only;by_cases e:(⟨y.q,path,L⟩:Scp).strg j up (if up=true then -v.1 else v.1)=true
  ·rw[if_pos e];refine Bl h ?_;cases up with
   |true=>exact Mw (M:=L) hy hp (BY hy rfl (hwf.scale.mono oM) hd)| false=>exact Rq (M:=L) hy hp (BY hy rfl (hwf.mono oM) hd)
  {rw[if_neg e];simpa using h}
def VM {y:FQry}(hy:Yok y){path:List Dec}{n:Nat}:∀ {us:List A} {j:Nat} {L:List Lem},us=(y.g.us.drop j).map fA->Ve y.q path L->∃ L',runG n us j ⟨y.q,path,L⟩=⟨y.q,path,L'⟩/\Ve y.q path L'
 |[],j,L,_,h=>⟨L,rfl,h⟩| p::r,j,L,hu,h=>by
  have hlen:j<y.g.us.length:=by
   (have:(y.g.us.drop j).length≠0:=by grind);grind
  (rw[Li hlen] at hu;simp only[jH,List.cons.injEq] at hu;obtain⟨hp,hr⟩:=hu;have hg:y.g.us[j]?=some y.g.us[j]:=by grind);have e1:p.f=y.g.us[j]:=by rw[hp,qG]
  unfold runG;rw[e1];exact VM hy hr (VL hy hg true (VL hy hg false h))
def Cf {y:FQry}(hy:Yok y){path:List Dec}{L:List Lem}(h:Ve y.q path L)(n:Nat):∃ L',(⟨y.q,path,L⟩:Scp).run n=⟨y.q,path,L'⟩/\Ve y.q path L' :=
 VM hy (by show y.g.us.map fA=_;simp) h
end Go.Proofs.YtaeaffgjdcigoaaGreat
