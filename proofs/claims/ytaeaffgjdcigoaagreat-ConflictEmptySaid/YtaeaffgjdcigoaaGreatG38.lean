/- A part of the proof: KpP, KqA, KqB, KqC. -/
import Derived.Test.YtaeaffgjdcigoaaGreatG37
import Derived.Test.YtaeaffgjdcigoaaGreatG46
set_option linter.all false
namespace Go.Proofs.YtaeaffgjdcigoaaGreat
open Go
theorem Cw.mono {s:Scp}{p c p':Nat}(h:Cw s p c)(hp:p<=p'):Cw s p' c:=⟨h.dp,h.v,h.qz,vR h.pl hp,h.len,h.l,h.lb,h.r⟩
def Y9 (raw:List UInt8):Lft (clo raw) (mR (Zy raw)):=by obtain⟨cv,dr⟩:=Q9 raw;refine⟨cv.toCw.mono (by decide),by rw[jJ];exact dr.len,⟨by rw[jJ];have:=dr.len;show (oL (tV raw)).length<2^38;omega,λm hm=>?_⟩,λm hm=>?_⟩;{obtain⟨t,ht,rfl⟩:=xA.1 hm;exact zT (dr.m t ht)};{obtain⟨t,ht,rfl⟩:=xA.1 hm;exact (dr.r t ht).mono (yD _) (yD _)}
def rrR (σ:Int->Int) (r:Row):Row:=⟨r.k,r.i,σ r.lo,σ r.hi⟩
def rrM (σ:Int->Int) (m:Mult):Mult:=⟨rrR σ m.row,m.c⟩
structure Rn (s t:Scp) (σ:Int->Int) (N:Int->Prop):Prop where
 q:t.q=s.q
 z:σ 0=0
 n0:N 0
 m:∀ a b,N a->N b->a<b->σ a<σ b
 l:∀ n,N n->n≠0->∀ u up,t.lem (σ n) u up=s.lem n u up
structure RnR (s t:Scp) (N:Int->Prop) (r:Row):Prop where
 lo:N r.lo
 hi:N r.hi
 k:r.k≠4
 on:r.k=7\/r.k=8->r.lo=0->t.dcd 1 r.i=s.dcd 1 r.i
 off:r.k=9\/r.k=10->r.hi=0->t.dcd 2 r.i=s.dcd 2 r.i
theorem Rn.zr {s t σ N}(h:Rn s t σ N){a:Int}(ha:N a):σ a=0↔a=0:=by have h1:=h.m a 0 ha h.n0;have h2:=h.m 0 a h.n0 ha;have h3:=h.z;grind
theorem Rn.lm {s t σ N}(h:Rn s t σ N){a:Int}(ha:N a)(u:Int)(up:Bool):t.lem (σ a) u up=s.lem a u up:=by by_cases e:a=0;{subst e;rw[h.z,Ws oM,Ws oM]};{exact h.l a ha e u up}
theorem Rn.fm {s t σ N}(h:Rn s t σ N){r:Row}(hr:RnR s t N r):t.fm (rrR σ r)=s.fm r:=by
 have e1:=h.zr hr.lo;have e2:=h.zr hr.hi;have e3:=λup=>h.lm hr.lo r.i up;have e4:=λup=>h.lm hr.hi r.i up;have d1:decide (σ r.lo=0)=decide (r.lo=0):=decide_eq_decide.2 e1;have d2:decide (σ r.hi=0)=decide (r.hi=0):=decide_eq_decide.2 e2;have ep:(rrR σ r).plain=r.plain:=by show (decide (σ r.lo=0)&&decide (σ r.hi=0))=_;rw[d1,d2];rfl
 have o1:r.k=7\/r.k=8->∀ L b,onB t (rrR σ r) L b=onB s r L b:=λhk L b=>by show (decide (σ r.hi=0)&&((decide (σ r.lo=0)&&t.dcd 1 r.i) || _))=_;rw[d1,d2];unfold onB;by_cases e:r.lo=0;{rw[hr.on hk e]};{rw[decide_eq_false e];rfl}
 have o2:r.k=9\/r.k=10->∀ L b,iD t (rrR σ r) L b=iD s r L b:=λhk L b=>by show (decide (σ r.lo=0)&&((decide (σ r.hi=0)&&t.dcd 2 r.i) || _))=_;rw[d1,d2];unfold iD;by_cases e:r.hi=0;{rw[hr.off hk e]};{rw[decide_eq_false e];rfl}
 have u:∀ p v l w,unF t (rrR σ r) p v l w=unF s r p v l w:=λp v l w=>by unfold unF;rw[ep];have k1:(rrR σ r).k=r.k:=rfl;have k2:(rrR σ r).lo=σ r.lo:=rfl;have k3:(rrR σ r).hi=σ r.hi:=rfl;grind
 unfold Scp.fm;show (if r.k<1\/14<=r.k\/t.q.valid=false then none else if r.k<=4 then _ else _)=_;rw[h.q];have i1:t.fIn (rrR σ r)=s.fIn r:=by unfold Scp.fIn;rw[ep,h.q];show (if r.plain=true/\0<=r.i then (if r.k=1 then _ else if r.k=2 then _ else if r.k=3 then _ else if r.k=4 then _ else none) else none)=_;rw[if_neg hr.k,if_neg hr.k];rfl
 have i2:t.fUn (rrR σ r)=s.fUn r:=by
  unfold Scp.fUn;rw[h.q];by_cases hi:0<=r.i/\r.i<s.q.g.us.length
  ·rw[if_pos hi,if_pos (show 0<=(rrR σ r).i/\(rrR σ r).i<s.q.g.us.length from hi)];show (match s.q.g.us[r.i.toNat]? with
    |some p=>unF t (rrR σ r) p.f (F.var (s.q.g.n+r.i)) (t.lem (σ r.lo) r.i false) (t.lem (σ r.hi) r.i true)| none=>none)=_
   rw[e3,e4];cases s.q.g.us[r.i.toNat]? with
   |none=>rfl| some p=>exact u _ _ _ _
  {rw[if_neg hi,if_neg (show ¬(0<=(rrR σ r).i/\(rrR σ r).i<s.q.g.us.length) from hi)]}
 rw[i1,i2]
theorem Rn.ci {s t σ N}(h:Rn s t σ N){a b:Int}(ha:N a)(hb:N b):cI (σ a) (σ b)=cI a b:=by have h1:=h.m a b ha hb;have h2:=h.m b a hb ha;unfold cI;rcases Int.lt_trichotomy a b with g|g|g;{have:=h1 g;grind};{subst g;simp};{have:=h2 g;grind}
theorem Rn.cmp {s t σ N}(h:Rn s t σ N){a b:Row}(ha:N a.lo/\N a.hi)(hb:N b.lo/\N b.hi):dF (rrR σ a) (rrR σ b)=dF a b:=by show orI (cI a.k b.k) (orI (cI a.i b.i) (orI (cI (σ a.lo) (σ b.lo)) (cI (σ a.hi) (σ b.hi))))=_;rw[h.ci ha.1 hb.1,h.ci ha.2 hb.2];rfl
theorem Rn.can {s t σ N}(h:Rn s t σ N):∀ {l:List Mult} {p:Option Row},(∀ m,m∈l->N m.row.lo/\N m.row.hi)->(∀ w,p=some w->N w.lo/\N w.hi)->uN (p.map (rrR σ)) (l.map (rrM σ))=uN p l
 |[],_,_,_=>rfl| m::r,p,hl,hp=>by
  have hm:=hl m xV;have ih:=h.can (l:=r) (p:=some m.row) (λx hx=>hl x (xQ _ hx)) (λw hw=>by cases hw;exact hm);rw[jB];unfold uN;rw[<-ih];cases p with
  |none=>rfl| some w =>
   show (_&&(_&&(decide (dF (rrR σ w) (rrR σ m.row)<0)&&_)))=_;rw[h.cmp (hp w rfl) hm];rfl
theorem Rn.smL {s t σ N}(h:Rn s t σ N):∀ {l:List Mult} (acc:F),(∀ m,m∈l->RnR s t N m.row)->sumL t acc (l.map (rrM σ))=sumL s acc l
 |[],_,_=>rfl| m::r,acc,hl=>by
  have hm:=hl m xV;rw[jB];unfold sumL;show (match t.fm (rrR σ m.row) with
   |none=>none| some f=>_)=_
  rw[h.fm hm];cases s.fm m.row with
  |none=>rfl| some f=>exact h.smL _ (λx hx=>hl x (xQ _ hx))
theorem Rn.sum {s t σ N}(h:Rn s t σ N){l:List Mult}(hl:∀ m,m∈l->RnR s t N m.row):t.sum (l.map (rrM σ))=s.sum l:=by have h1:=h.can (l:=l) (p:=none) (λm hm=>⟨(hl m hm).lo,(hl m hm).hi⟩) (λw hw=>by cases hw);unfold Scp.sum;rw[h.smL _ hl,show uN none (l.map (rrM σ))=uN none l from h1]
theorem Rn.proves {s t σ N}(h:Rn s t σ N){l:List Mult}(hl:∀ m,m∈l->RnR s t N m.row)(f:A):t.proves f (l.map (rrM σ))=s.proves f l:=by unfold Scp.proves;rw[h.sum hl]
theorem Rn.closes {s t σ N}(h:Rn s t σ N){l:List Mult}(hl:∀ m,m∈l->RnR s t N m.row)(em:Bool):t.closes em (l.map (rrM σ))=s.closes em l:=by unfold Scp.closes Scp.refutes;rw[h.proves hl,h.sum hl,h.q]
theorem Rn.lemB {s t σ N}(h:Rn s t σ N){m m':Lem}(hl:∀ y,y∈m.pf->RnR s t N y.row)(e:m'=⟨m.u,m.up,m.v,m.pf.map (rrM σ)⟩):t.lemB m'=s.lemB m:=by
 subst e;unfold Scp.lemB;rw[h.q];show (decide (0<=m.u/\m.u<s.q.g.us.length)&&(m.v.ok&&(s.q.valid&&match s.q.g.us[m.u.toNat]? with
  |some p=>t.proves (fA (m.form p.f)) (m.pf.map (rrM σ))| none=>false)))=_
 cases s.q.g.us[m.u.toNat]? with
 |none=>rfl| some p =>
  show (_&&(_&&(_&&t.proves _ _)))=_;rw[h.proves hl]
def V5 {s:Scp}:∀ {l:List Mult} {acc f:F},sumL s acc l=some f->∀ m,m∈l->∃ g,s.fm m.row=some g
 |m::r,acc,f,h,y,hy=>by
  unfold sumL at h;cases hx:s.fm m.row with
  |none=>rw[hx] at h;cases h
  |some g =>
   rw[hx] at h;rcases yI.1 hy with rfl|hy;{exact⟨g,hx⟩};{exact V5 h y hy}
def KC {s:Scp}{l:List Mult}(h:(s.sum l).1=0):∀ m,m∈l->∃ g,s.fm m.row=some g:=by unfold Scp.sum at h;split at h;{cases h};{split at h;{cases h};{rename_i f hf;exact V5 hf}}
def JU {s:Scp}{em:Bool}{l:List Mult}(h:s.closes em l=true):∀ m,m∈l->∃ g,s.fm m.row=some g:=by refine KC ?_;unfold Scp.closes Scp.refutes Scp.proves at h;grind
def DJ {s:Scp}{m:Lem}(h:s.lemB m=true):∀ y,y∈m.pf->∃ g,s.fm y.row=some g:=by refine KC ?_;unfold Scp.lemB Scp.proves at h;grind
def Nd {s:Scp}{r:Row}{g:F}(h:s.fm r=some g):(r.k=4->∃ d,0<=r.i/\s.path[r.i.toNat]?=some d/\(d.k=3\/d.k=4))/\(r.k=7\/r.k=8->r.lo=0->s.dcd 1 r.i=true)/\(r.k=9\/r.k=10->r.hi=0->s.dcd 2 r.i=true):=by
 unfold Scp.fm at h;refine⟨λhk=>?_,λhk h0=>?_,λhk h0=>?_⟩;{rw[if_neg (by grind),if_pos oM] at h;unfold Scp.fIn at h;grind}
 all_goals
  rw[if_neg (by grind),if_neg oM] at h;unfold Scp.fUn at h;split at h;{split at h;{rw[h0,Ws (n:=0) oM] at h;unfold unF onB iD at h;grind};{cases h}};{cases h}
def YB {s:Scp}:∀ {L:List Lem} {i j:Nat} {m:Lem},vV s i L=true->L[j]?=some m->(s.pre (i+j)).lemB m=true
 |a::r,i,0,m,h,hm=>by unfold vV at h;simp only[mH,pE] at hm;rw[<-hm];exact (Gy.1 h).1| a::r,i,j+1,m,h,hm=>by unfold vV at h;have:=YB (Gy.1 h).2 (j:=j) (m:=m) (by simpa using hm);rwa [show i+1+j=i+(j+1) by omega] at this
def YA {s:Scp}:∀ {L:List Lem} {i:Nat},(∀ (j:Nat) m,L[j]?=some m->(s.pre (i+j)).lemB m=true)->vV s i L=true
 |[],_,_=>rfl| a::r,i,h=>by unfold vV;rw[show (s.pre i).lemB a=true from h 0 a rfl,YA (L:=r) (λj m hm=>by have:=h (j+1) m (by simpa using hm);rwa [show i+(j+1)=i+1+j by omega] at this)];rfl
def Fb {s:Scp}{n:Nat}{x:Int}(h:x<=n)(u:Int)(up:Bool):(s.pre n).lem x u up=s.lem x u up:=by have e:(s.pre n).lems=s.lems.take n:=rfl;unfold Scp.lem;rw[e,kV];by_cases g:1<=x/\x<=s.lems.length;{rw[if_pos oM,if_pos g,List.getElem?_take,if_pos oM]};{rw[if_neg oM,if_neg g]}
def UJ {x y:yQ}:∀ {l:List yQ},y∈fM x l↔y=x\/y∈l
 |[]=>by simp[fM]| z::t=>by unfold fM;split;{rw[yI,UJ (l:=t),yI];grind};{simp}
def Jm {y:yQ}:∀ {l a:List yQ},y∈l.foldl (λa x=>fM x a) a↔y∈l\/y∈a
 |[],a=>by simp| x::r,a=>by rw[Kk,Jm (l:=r),UJ,yI];grind
def R6 {ls c:List yQ}(h:mkP ls=some c):clG none c=true/\∀ x,x∈c↔x∈ls:=by unfold mkP at h;split at h;{rename_i g;cases h;exact⟨g,λx=>by rw[List.mem_reverse];unfold dB;rw[Jm];simp⟩};{cases h}
def FU:∀ {c:List yQ} {p:Option Int},clG p c=true->∀ x,x∈c->0<=x.1/\x.1<1024
 |a::r,p,h,x,hx=>by unfold clG at h;simp only[yK,decide_eq_true_eq] at h;rcases yI.1 hx with rfl|g;{exact⟨h.1.1,h.1.2.1⟩};{exact FU h.2 x g}
def Fu {s:Scp}:∀ {D:List Int} {acc ls:List yQ},lgo s D acc=some ls->∀ z,z∈ls↔z∈acc\/∃ k,k∈D/\∃ x,jE (s.dec k)=some x/\z=(x.1,!x.2)
 |[],acc,ls,h,z=>by cases h;simp
 |k::r,acc,ls,h,z=>by
  unfold lgo at h;cases hx:jE (s.dec k) with
  |none=>rw[hx] at h;cases h
  |some x =>
   rw[hx] at h;rw[Fu h z];grind
def B5:∀ {M:List Int} {i:Nat} {x:Int},M.Pairwise (·<·)->M[i]?=some x->ixI M x=i
 |a::r,0,x,_,h=>by simp only[mH,pE] at h;show (if decide (x=a)=true then (0:Int) else _)=_;rw[if_pos (by simp[h])];rfl
 |a::r,i+1,x,hp,h=>by
  (obtain⟨h1,h2⟩:=cG.1 hp;have h:r[i]?=some x:=by simpa using h);have ih:=B5 h2 h
  have:=h1 x (zX h);show (if decide (x=a)=true then (0:Int) else if ixI r x<0 then -1 else ixI r x+1)=_;grind
def Nk (M:List Int) (n:Nat) (x:Int):Prop:=x=0\/(1<=x/\x<=n/\x-1∈M)
def G8 {s t:Scp}{M:List Int}(hM:M.Pairwise (·<·))(hr:∀ x,x∈M->0<=x/\x<s.lems.length)(hq:t.q=s.q)(hl:t.lems=(M.map s.lemA).map (rnL M)){n j:Nat}(hj:∀ (i:Nat) x,M[i]?=some x->x<n->i<j):Rn (s.pre n) (t.pre j) (ZQ M) (Nk M n):=by
 have at_:∀ x,Nk M n x->x≠0->∃ i:Nat,M[i]?=some (x-1)/\ZQ M x=(i:Int)+1:=λx hx h0=>by obtain⟨h1,h2,h3⟩:=hx.resolve_left h0;obtain⟨i,hi⟩:=rK h3;refine⟨i,hi,?_⟩;unfold ZQ;rw[if_pos oM,B5 hM hi]
 refine⟨hq,rfl,.inl rfl,λa b ha hb hab=>?_,λx hx h0 u up=>?_⟩
 ·by_cases h0:a=0;{obtain⟨i,_,e⟩:=at_ b hb oM;rw[e,h0];show (0:Int)<_;omega}
  ·(have hb0:b≠0:=by have:=hb;have ha':=ha.resolve_left h0;omega);obtain⟨i,g1,e1⟩:=at_ a ha h0;obtain⟨k,g2,e2⟩:=at_ b hb hb0;rw[e1,e2];have:i<k:=by rcases Nat.lt_trichotomy i k with g|g|g;{exact g};{subst g;have e:=vO (g1.symm.trans g2);omega};{have:=Gz.1 hM k i (xP.1 g2).1 (xP.1 g1).1 g;grind}
   omega
 ·(obtain⟨h1,h2,h3⟩:=hx.resolve_left h0;obtain⟨i,g1,e1⟩:=at_ x hx h0;have hij:=hj i (x-1) g1 oM;obtain⟨r1,r2⟩:=hr _ h3;obtain⟨m,hm⟩:=zO (l:=s.lems) (i:=(x-1).toNat) oM;have hA:s.lemA (x-1)=m:=by unfold Scp.lemA;rw[hm];rfl);rw[e1,Fb oM,Fb h2]
  (have hil:=(xP.1 g1).1;have ht:t.lems[((i:Int)+1-1).toNat]?=some (rnL M m):=by rw[hl,show ((i:Int)+1-1).toNat=i by omega,uY,uY,g1];show some (rnL M (s.lemA (x-1)))=_;rw[hA]);rw[Wu oM (by rw[hl,y8,y8];omega) ht,Wu oM oM hm];rfl
def Uj {s:Scp}{l:List Mult}{y:Mult}(hy:y∈l\/∃ n,Reach s l n/\y∈s.pfn n):(0<=s.rowD y.row->cH s l (s.rowD y.row))/\∀ x,(x=y.row.lo\/x=y.row.hi)->1<=x->x<=s.lems.length->Reach s l (x-1):=by rcases hy with hy|⟨n,hn,hy⟩;{exact⟨λh=>.inl ⟨h,y,hy,rfl⟩,λx hx h1 h2=>.base ⟨by omega,by omega,y,hy,by omega⟩⟩};{exact⟨λh=>.inr ⟨n,hn,h,y,hy,rfl⟩,λx hx h1 h2=>.step hn ⟨by omega,by omega,y,hy,by omega⟩⟩}
def Pr {s:Scp}{k i:Int}(h:s.dcd k i=true):0<=s.fst k i/\∃ d,s.path[(s.fst k i).toNat]?=some d/\d.k=k/\d.i=i/\d.fits s.q=true:=by
 unfold Scp.fst;have key:∀ {l:List Dec},(l.any λd=>decide (d.k=k)&&(decide (d.i=i)&&d.fits s.q))=true->0<=wH (λd=>decide (d.k=k)&&(decide (d.i=i)&&d.fits s.q)) l/\∃ d,l[(wH (λd=>decide (d.k=k)&&(decide (d.i=i)&&d.fits s.q)) l).toNat]?=some d/\d.k=k/\d.i=i/\d.fits s.q=true:=by
  intro l;induction l with
  |nil=>intro h;cases h
  |cons a r ih =>
   intro h;rw[Vu,Kq] at h;rw[show wH (λd=>decide (d.k=k)&&(decide (d.i=i)&&d.fits s.q)) (a::r)=if (decide (a.k=k)&&(decide (a.i=i)&&a.fits s.q))=true then 0 else if wH (λd=>decide (d.k=k)&&(decide (d.i=i)&&d.fits s.q)) r<0 then -1 else wH (λd=>decide (d.k=k)&&(decide (d.i=i)&&d.fits s.q)) r+1 from rfl];by_cases e:(decide (a.k=k)&&(decide (a.i=i)&&a.fits s.q))=true;{rw[if_pos e];simp only[yK,decide_eq_true_eq] at e;exact⟨by omega,a,rfl,e.1,e.2.1,e.2.2⟩};{rw[if_neg e];obtain⟨h1,d,h2,h3⟩:=ih (h.resolve_left e);rw[if_neg oM];refine⟨by omega,d,?_,h3⟩;rw[show (wH (λd=>decide (d.k=k)&&(decide (d.i=i)&&d.fits s.q)) r+1).toNat=(wH (λd=>decide (d.k=k)&&(decide (d.i=i)&&d.fits s.q)) r).toNat+1 by omega,p9];exact h2}
 exact key h
def LN (s:Scp) (em:Bool) (l:List Mult) (c:List yQ):Rsn:=⟨c,((wN (s.marks l).2).map s.lemA).map (rnL (wN (s.marks l).2)),em,l.map (rnP (wN (s.marks l).2))⟩
def Jj {s:Scp}{p c0:Nat}(hw:Cw s p c0){l:List Mult}(hl:∀ m,m∈l->RoIn s m.row){em:Bool}(hs:s.scopeB=true)(hcl:s.closes em l=true){ls c:List yQ}(hls:lgo s (wN (s.marks l).1) []=some ls)(hmk:mkP ls=some c):aR s.q (LN s em l c)=true:=by
 obtain⟨m1,m2,m3,m4⟩:=tL hw.backs l;obtain⟨c1,c2⟩:=R6 hmk;have c3:=FU c1;have lm:=Fu hls;have lu:=(Wr hls).1;unfold Scp.scopeB at hs;simp only[yK,gG] at hs;obtain⟨hv,hpf,hlf⟩:=hs;obtain⟨M,hM⟩:=ex (wN (s.marks l).2);have hMp:M.Pairwise (·<·):=by rw[<-hM];exact Zn _
 have hMm:∀ x,x∈M↔Reach s l x:=λx=>by rw[<-hM,jL];constructor;{rintro⟨j,rfl,g1,g2⟩;exact (m3 j oM).1 g2};{intro h;have hr:=h.rng;refine⟨x.toNat,by omega,by omega,(m3 _ oM).2 ?_⟩;rwa [show ((x.toNat:Nat):Int)=x by omega]}
 have hMr:∀ x,x∈M->0<=x/\x<s.lems.length:=λx hx=>((hMm x).1 hx).rng;have hcm:∀ x,x∈c->0<=x.1/\x.1<s.q.g.us.length:=λx hx=>by
  rcases (lm x).1 ((c2 x).1 hx) with g|⟨k,hk,y,hy,rfl⟩;{cases g}
  ·(have h1:=lu k hk;obtain⟨g1,g2⟩:=Gf hk;obtain⟨d,hd⟩:=zO (l:=s.path) (i:=k.toNat) oM;have ed:s.dec k=d:=by unfold Scp.dec;rw[hd];rfl);have hf:=(hpf d (zX hd)).2
   rw[ed] at hy h1;unfold jE at hy;unfold Dec.fits at hf;unfold uk at h1;grind
 have hdec:∀ {b:Bool} {i:Int},(i,b)∈c->(⟨s.q,c.map gR,(M.map s.lemA).map (rnL M)⟩:Scp).dcd (if (!b)=true then 1 else 2) i=true:=λ{b i} hx=>by unfold Scp.dcd;refine Vt.2 ⟨gR (i,b),xA.2 ⟨_,hx,rfl⟩,?_⟩;have:=lQ (q:=s.q) (k:=if (!b)=true then 1 else 2) (i:=i) (by split <;> simp) (hcm _ hx);simp only[yK,decide_eq_true_eq];exact⟨rfl,rfl,this⟩
 have hrow:∀ {y:Mult} {g:F} {s':Scp},s'.path=s.path->s'.q=s.q->s'.fm y.row=some g->(y∈l\/∃ n,Reach s l n/\y∈s.pfn n)->y.row.k≠4/\(y.row.k=7\/y.row.k=8->y.row.lo=0->(⟨s.q,c.map gR,(M.map s.lemA).map (rnL M)⟩:Scp).dcd 1 y.row.i=s.dcd 1 y.row.i)/\(y.row.k=9\/y.row.k=10->y.row.hi=0->(⟨s.q,c.map gR,(M.map s.lemA).map (rnL M)⟩:Scp).dcd 2 y.row.i=s.dcd 2 y.row.i):=by
  (intro y g s' hp' hq' hg hy;obtain⟨u1,u2,u3⟩:=Nd hg;rw[hp'] at u1;have hdc:∀ k i,s'.dcd k i=s.dcd k i:=λk i=>by unfold Scp.dcd;rw[hp',hq']);rw[hdc] at u2 u3
  (obtain⟨q1,_⟩:=Uj hy;have hD:∀ {k:Int},s.rowD y.row=k->0<=k->k∈wN (s.marks l).1:=λ{k} e h0=>by have h1:=q1 oM;rw[e] at h1;have h2:=hw.reachD hl h1;exact jL.2 ⟨k.toNat,by omega,by omega,(m4 _ oM).2 (by rwa [show ((k.toNat:Nat):Int)=k by omega])⟩);have hdd:∀ {kd i:Int},s.dcd kd i=true->(kd=1\/kd=2)->s.rowD y.row=s.fst kd i->(⟨s.q,c.map gR,(M.map s.lemA).map (rnL M)⟩:Scp).dcd kd i=true:=λ{kd i} h1 hk h2=>by
   (obtain⟨f1,d,f2,f3,f4,f5⟩:=Pr h1;have f6:=hD h2 f1;have ed:s.dec (s.fst kd i)=d:=by unfold Scp.dec;rw[f2];rfl);have hx:jE (s.dec (s.fst kd i))=some (i,decide (kd=1)):=by rw[ed];unfold jE;rw[if_pos oM,f4,f3]
   have:=hdec ((c2 _).2 ((lm _).2 (.inr ⟨_,f6,_,hx,rfl⟩)));rcases hk with rfl|rfl;{exact this};{exact this}
  refine⟨λh4=>?_,λhk h0=>?_,λhk h0=>?_⟩
  ·(obtain⟨d,g1,g2,g3⟩:=u1 h4;have:=lu _ (hD (k:=y.row.i) (by unfold Scp.rowD;rw[if_pos h4]) g1);have ed:s.dec y.row.i=d:=by unfold Scp.dec;rw[g2];rfl);rw[ed] at this
   unfold uk at this;omega
  {rw[u2 hk h0];exact hdd (u2 hk h0) (.inl rfl) (by unfold Scp.rowD;rw[if_neg oM,if_pos ⟨hk,h0⟩])};{rw[u3 hk h0];exact hdd (u3 hk h0) (.inr rfl) (by unfold Scp.rowD;rw[if_neg oM,if_neg oM,if_pos ⟨hk,h0⟩])}
 have hN:∀ {y:Mult} {n:Nat},n<=s.lems.length->(y∈l\/∃ n,Reach s l n/\y∈s.pfn n)->(0<=y.row.lo/\y.row.lo<=n)->(0<=y.row.hi/\y.row.hi<=n)->Nk M n y.row.lo/\Nk M n y.row.hi:=λ{y n} hn hy h1 h2=>by
  (obtain⟨_,q2⟩:=Uj hy;have key:∀ x,(x=y.row.lo\/x=y.row.hi)->0<=x/\x<=n->Nk M n x:=λx hx h=>by by_cases h0:x=0;{exact .inl h0};{exact .inr ⟨by omega,h.2,(hMm _).2 (q2 x hx oM oM)⟩});exact⟨key _ (.inl rfl) h1,key _ (.inr rfl) h2⟩
 unfold LN aR;rw[hM];have hMl:M.length=((M.map s.lemA).map (rnL M)).length:=by simp
 have hclose:(⟨s.q,c.map gR,(M.map s.lemA).map (rnL M)⟩:Scp).closes em (l.map (rnP M))=true:=by
  (have r:=G8 (s:=s) (t:=⟨s.q,c.map gR,(M.map s.lemA).map (rnL M)⟩) hMp hMr rfl rfl (n:=s.lems.length) (j:=M.length) (λi x h _=>(xP.1 h).1);have e1:s.pre s.lems.length=s:=by unfold Scp.pre;rw[wW]);have e2:(⟨s.q,c.map gR,(M.map s.lemA).map (rnL M)⟩:Scp).pre M.length=⟨s.q,c.map gR,(M.map s.lemA).map (rnL M)⟩:=by unfold Scp.pre;show (⟨s.q,c.map gR,((M.map s.lemA).map (rnL M)).take M.length⟩:Scp)=_;rw[hMl,wW]
  rw[e1,e2] at r;rw[<-hcl];exact r.closes (λy hy=>by obtain⟨g,hg⟩:=JU hcl y hy;obtain⟨w1,w2,w3⟩:=hrow rfl rfl hg (.inl hy);have hin:=hl y hy;obtain⟨n1,n2⟩:=hN (yD _) (.inl hy) hin.lo hin.hi;exact⟨n1,n2,w1,w2,w3⟩) em
 have hscope:(⟨s.q,c.map gR,(M.map s.lemA).map (rnL M)⟩:Scp).scopeB=true:=by
  unfold Scp.scopeB;simp only[yK,gG];refine⟨hv,λd hd=>⟨hv,?_⟩,YA (λj m hm=>?_)⟩;{obtain⟨x,hx,rfl⟩:=xA.1 hd;exact lQ (by split <;> simp) (hcm x hx)}
  ·rw[jQ];rw[uY,uY] at hm;cases hx:M[j]? with
   |none=>rw[hx] at hm;cases hm
   |some n =>
    (rw[hx] at hm;have hm:rnL M (s.lemA n)=m:=vO hm;have hn:=hMr n (zX hx);have hrn:=(hMm n).1 (zX hx);obtain⟨a,ha⟩:=zO (l:=s.lems) (i:=n.toNat) oM;have eA:s.lemA n=a:=by unfold Scp.lemA;rw[ha];rfl);have ep:s.pfn n=a.pf:=by unfold Scp.pfn;rw[ha];rfl
    have hb:=YB hlf ha;rw[jQ] at hb;have r:=G8 (s:=s) (t:=⟨s.q,c.map gR,(M.map s.lemA).map (rnL M)⟩) hMp hMr rfl rfl (n:=n.toNat) (j:=j) (λi x h hlt=>by
     rcases qW i j with g|g;{exact g}
     ·rcases Nat.lt_or_eq_of_le g with g|g;{have:=Gz.1 hMp j i (xP.1 hx).1 (xP.1 h).1 g;grind}
      ·subst g;rw[hx] at h;cases h;omega)
    rw[<-hb,<-hm,eA];exact r.lemB (λy hy=>by have hy':y∈l\/∃ n,Reach s l n/\y∈s.pfn n:=.inr ⟨n,hrn,by rw[ep];exact hy⟩;obtain⟨g,hg⟩:=DJ hb y hy;obtain⟨w1,w2,w3⟩:=hrow (s':=s.pre n.toNat) rfl rfl hg hy';have hin:=hw.r n.toNat a ha y hy;have hlo:=hin.lo;have hhi:=hin.hi;simp only[kV] at hlo hhi;obtain⟨n1,n2⟩:=hN (n:=n.toNat) oM hy' oM oM;exact⟨n1,n2,w1,w2,w3⟩) rfl
 have hlast:r9 s.q c=true:=by unfold r9;split;{rename_i x hx;exact decide_eq_true (hcm x (zX hx)).2};{rfl}
 show (s.q.valid&&(clG none c&&(r9 s.q c&&((⟨s.q,c.map gR,(M.map s.lemA).map (rnL M)⟩:Scp).scopeB&&(⟨s.q,c.map gR,(M.map s.lemA).map (rnL M)⟩:Scp).closes em (l.map (rnP M))))))=true;rw[hv,c1,hlast,hscope,hclose];rfl
def Zi {s:Scp}{p c0:Nat}(hw:Cw s p c0){l:List Mult}(hl:∀ m,m∈l->RoIn s m.row){em:Bool}(h:(qL s em l).2=0):aR s.q (qL s em l).1=true:=by
 unfold qL at h ⊢;by_cases h1:s.scopeB=false;{rw[if_pos h1] at h;cases h};rw[if_neg h1] at h ⊢;by_cases h2:s.closes em l=false;{rw[if_pos h2] at h;cases h};rw[if_neg h2] at h ⊢;cases hls:lgo s (wN (s.marks l).1) [] with
 |none=>rw[hls] at h;cases h
 |some ls =>
  rw[hls] at h;dsimp only at h ⊢;cases hmk:mkP ls with
  |none=>rw[hmk] at h;cases h
  |some c=>exact Jj hw hl (by simpa using h1) (by simpa using h2) hls hmk
theorem Lfit.rok {s:Scp}{l:List Mult}(h:Lfit s l)(em:Bool):RsnOk s.q (qL s em l).1:=by
 have hq:s.q.sz (2^20):=h.w.qz.mono (by decide);have h0:RsnOk s.q pG:=⟨hq,by decide,⟨by decide,λm hm=>absurd hm (by simp[pG]),λm hm=>absurd hm (by simp[pG])⟩,λm hm=>absurd hm (by simp[pG]),⟨by decide,λm hm=>absurd hm (by simp[pG])⟩,by decide⟩;have f:=h.lrn;have z:=h.w.sz16 (by decide) (by decide);have key:∀ {k:Int},k∈wN (s.marks l).2->∃ x,x∈s.lems/\s.lemA k=x:=λ{k} hk=>by obtain⟨k0,k1⟩:=f.mm k hk;obtain⟨x,hx⟩:=zO (l:=s.lems) (i:=k.toNat) oM;exact⟨x,zX hx,by unfold Scp.lemA;rw[hx];rfl⟩
 unfold qL;split;{exact h0}
 ·split;{exact h0}
  ·split;{exact h0}
   ·rename_i ls hls;split;{exact h0}
    ·(rename_i c hc;have hL:∀ m,m∈((wN (s.marks l).2).map s.lemA).map (rnL (wN (s.marks l).2))->∃ x,x∈s.lems/\m=rnL (wN (s.marks l).2) x:=λm hm=>by obtain⟨y,hy,rfl⟩:=xA.1 hm;obtain⟨k,hk,rfl⟩:=xA.1 hy;obtain⟨x,hx,e⟩:=key hk;exact⟨x,hx,by rw[e]⟩);refine⟨hq,?_,⟨?_,λm hm=>?_,λm hm=>?_⟩,λm hm=>?_,Fk (h.z.mono (by decide)) _,?_⟩
     ·(have e1:ls.length=(wN (s.marks l).1).length:=by have:=congrArg List.length (Wr hls).2;grind);have e2:c.length=ls.length:=by unfold mkP at hc;split at hc;{cases hc;rw[List.length_reverse,Wx]};grind
      have:=f.dl;show c.length<=1000;omega
     {have:=f.ml;simp only[y8];omega};{obtain⟨x,hx,rfl⟩:=hL m hm;exact (z.lems.sz x hx).mono (by decide)};{obtain⟨x,hx,rfl⟩:=hL m hm;exact Fk ((z.lems.pf x hx).mono (by decide)) _};{obtain⟨x,hx,rfl⟩:=hL m hm;show (x.pf.map _).length<=100;rw[y8];have:=(h.w.l x hx).2.2;omega};{show (l.map _).length<=100;rw[y8];have:=h.n;omega}
def AS:∀ {c:List yQ} {p:Option Int},clG p c=true->c.Pairwise (λa b=>a.1<b.1)/\∀ q,p=some q->∀ x,x∈c->q<x.1
 |[],p,_=>⟨List.Pairwise.nil,λq _ x hx=>absurd hx (by simp)⟩| a::r,p,h=>by
  (unfold clG at h;simp only[yK,decide_eq_true_eq] at h;obtain⟨⟨g1,g2,g3⟩,g4⟩:=h;obtain⟨i1,i2⟩:=AS g4;have i3:=i2 a.1 rfl;refine⟨cG.2 ⟨i3,i1⟩,λq hq x hx=>?_⟩;subst hq;have g3:q<a.1:=by simpa using g3);rcases yI.1 hx with rfl|g
  {exact g3};{have:=i3 x g;omega}
def UI (x:yQ):∀ l,(fM x l).Perm (x::l)
 |[]=>.refl _| y::r=>by unfold fM;split;{exact ((UI x r).cons y).trans (.swap x y r)};{exact .refl _}
def UE:∀ (l a:List yQ),(l.foldl (λa x=>fM x a) a).Perm (l++a)
 |[],a=>.refl _| x::r,a=>by rw[Kk];refine (UE r (fM x a)).trans ?_;refine ((UI x a).append_left r).trans ?_;exact List.perm_middle
def UG (x:yQ):∀ l,(pA x l).Perm (x::l)
 |[]=>.refl _| y::r=>by unfold pA;split;{exact .refl _};{exact ((UG x r).cons y).trans (.swap x y r)}
def UH:∀ (l a:List yQ),(l++a).Nodup->(l.foldl bC a).Perm (l++a)
 |[],a,_=>.refl _| x::r,a,h=>by rw[Kk];have hx:x∉a:=λg=>(mI.1 h).1 (Dc _ g);have e:bC a x=pA x a:=if_neg hx;rw[e];have p1:(r++pA x a).Perm (x::(r++a)):=((UG x a).append_left r).trans List.perm_middle;exact (UH r (pA x a) (p1.nodup_iff.2 h)).trans p1
def K7:∀ {l:List yQ},l.Nodup->o7 l
 |[],_=>trivial| [_],_=>trivial| a::b::r,h=>by obtain⟨h1,h2⟩:=mI.1 h;exact⟨λe=>h1 (e ▸ xV),K7 h2⟩
def MV {l:List yQ}(h:l.Nodup):mkR l=mkP l/\o7 (dB l).reverse:=by
 by_cases hu:l.Pairwise (λa b=>a.1≠b.1);{exact Fm hu};have p1:(dB l).reverse.Perm l:=(List.reverse_perm _).trans (by unfold dB;simpa using UE l []);have p2:(l.foldl bC []).Perm l:=by simpa using UH l [] (by simpa using h)
 have no:∀ c:List yQ,c.Perm l->clG none c=true->False:=λc hp hc=>by have h1:=(AS hc).1.imp (S:=λa b=>a.1≠b.1) (λ{a b} g=>by omega);exact hu ((hp.pairwise_iff (λ{a b} g=>Ne.symm g)).1 h1)
 refine⟨?_,K7 (p1.nodup_iff.2 h)⟩;unfold mkR mkP;rw[if_neg (λg=>no _ p2 g),if_neg (λg=>no _ p1 g)]
def UC {s:Scp}:∀ {D:List Int} {acc ls:List yQ},lgo s D acc=some ls->acc.Nodup->D.Nodup->(∀ a,a∈D->∀ b,b∈D->a≠b->jE (s.dec a)≠jE (s.dec b))->(∀ a,a∈D->∀ x,jE (s.dec a)=some x->(x.1,!x.2)∉acc)->ls.Nodup
 |[],acc,ls,h,ha,_,_,_=>by cases h;exact ha
 |k::r,acc,ls,h,ha,hD,hne,hno=>by
  unfold lgo at h;cases hx:jE (s.dec k) with
  |none=>rw[hx] at h;cases h
  |some x =>
   rw[hx] at h;obtain⟨d1,d2⟩:=mI.1 hD;have hk:=hno k xV x hx;refine UC h (YL.2 ⟨ha,by simp,λa h1 b h2 e=>?_⟩) d2 (λa h1 b h2=>hne a (xQ _ h1) b (xQ _ h2)) (λa h1 y hy g=>?_);{rw[kC.1 h2] at e;exact hk (e ▸ h1)}
   ·rcases uQ.1 g with g|g;{exact hno a (xQ _ h1) y hy g}
    ·(have e:(y.1,!y.2)=(x.1,!x.2):=kC.1 g;have e2:y=x:=by obtain⟨y1,y2⟩:=y;obtain⟨x1,x2⟩:=x;simp only[Prod.mk.injEq,Bool.not_eq_not] at e;rw[e.1];simp_all);exact hne k xV a (xQ _ h1) (λq=>d1 (q ▸ h1)) (by rw[hx,hy,e2])
def Scp.dplus (s:Scp) (d:Dec):Scp:=⟨s.q,s.path++[d],s.lems⟩
def BV {s:Scp}{l0 l:List Mult}{d:Dec}(h:Lft s l0)(hp:s.path.length<=7)(hf:d.x.sz 3)(hl:∀ m,m∈l->RoIn s m.row/\m.row.k≠4)(hn:l.length<=20)(hz:Msz (2^16) l):Lft (s.dplus d) l:=by
 have hL:(s.dplus d).path.length=s.path.length+1:=by show (s.path++[d]).length=_;simp
 refine⟨⟨λe he=>?_,h.w.v,h.w.qz,by omega,h.w.len,h.w.l,h.w.lb,λi m hm y hy=>?_⟩,hn,hz,λm hm=>?_⟩;{rcases uQ.1 he with g|g;{exact h.w.dp e g};{rw[kC.1 g];exact hf}};{have:=h.w.r i m hm y hy;exact⟨this.i,λe=>by have:=this.p e;show _<((s.path++[d]).length:Int);simp at *;omega,this.lo,this.hi⟩};{obtain⟨this,hk⟩:=hl m hm;exact⟨this.i,λe=>absurd e hk,this.lo,this.hi⟩}
def Ac {α:Type}(P:α->Bool)(a:List α)(x:α):(0<=wH P a->wH P (a++[x])=wH P a)/\(wH P a<0->wH P (a++[x])=if P x=true then (a.length:Int) else -1):=by
 induction a with
 |nil =>
  refine⟨λh=>absurd h (show ¬(0:Int)<=-1 by decide),λ_=>?_⟩;show (if P x then (0:Int) else if (-1:Int)<0 then -1 else _)=_;split <;> simp
 |cons y r ih =>
  (obtain⟨h1,h2⟩:=ih;have e1:wH P (y::r)=if P y then 0 else if wH P r<0 then -1 else wH P r+1:=rfl);have e2:wH P (y::r++[x])=if P y then 0 else if wH P (r++[x])<0 then -1 else wH P (r++[x])+1:=rfl
  rw[e1,e2,bK];by_cases g:P y=true;{simp[g]};{rw[if_neg g,if_neg g];by_cases q:wH P r<0;{rw[if_pos q,h2 q];refine⟨λh=>absurd h (by decide),λ_=>?_⟩;split;{rw[if_neg oM];omega};{rfl}};{rw[if_neg q,h1 oM,if_neg q];exact⟨λ_=>rfl,λh=>by omega⟩}}
def Ao {s:Scp}{l0 l:List Mult}{d:Dec}(h:Lft s l0)(hu:UD s.q s.path)(hp:s.path.length<=7)(hd:uk d)(hf:d.x.sz 3)(hl:∀ m,m∈l->RoIn s m.row/\m.row.k≠4)(hn:l.length<=20)(hz:Msz (2^16) l):Lfit (s.dplus d) l:=by
 have hF:=BV h hp hf hl hn hz;refine⟨hF,λls hls=>MV ?_⟩;obtain⟨m1,m2,m3,m4⟩:=tL hF.w.backs l;have hL:(s.dplus d).path.length=s.path.length+1:=by show (s.path++[d]).length=_;simp
 have lu:=(Wr hls).1;have hold:∀ j:Nat,j<s.path.length->∃ e,s.path[j]?=some e/\(s.dplus d).dec (j:Int)=e:=λj hj=>by
  obtain⟨e,he⟩:=zO hj;exact⟨e,he,by
   (have:(s.path++[d])[j]?=some e:=by rw[Hf hj];exact he);unfold Scp.dec
   show ((s.path++[d])[((j:Int)).toNat]?).getD _=e;rw[show ((j:Int)).toNat=j from rfl,this];rfl⟩
 have hnew:(s.dplus d).dec (s.path.length:Int)=d:=by unfold Scp.dec;show ((s.path++[d])[((s.path.length:Int)).toNat]?).getD _=d;rw[show ((s.path.length:Int)).toNat=s.path.length from rfl,ZH (yD _)];simp
 
 have hone:∀ k:Int,k=s.path.length->k∈wN ((s.dplus d).marks l).1->s.fst d.k d.i<0:=λk hk hm=>by
  obtain⟨j,ej,g1,g2⟩:=jL.1 hm;have hr:=(m4 j oM).1 g2;have row:∀ y:Mult,(y.row.k=4->y.row.i<s.path.length)->(s.dplus d).rowD y.row=j->s.fst d.k d.i<0:=λy h4 hy=>by
   (have base:∀ kd:Int,(s.dplus d).fst kd y.row.i=j->s.fst d.k d.i<0:=λkd hj'=>by have ap:=Ac (λe:Dec=>decide (e.k=kd)&&(decide (e.i=y.row.i)&&e.fits s.q)) s.path d;have e1:(s.dplus d).fst kd y.row.i=wH (λe:Dec=>decide (e.k=kd)&&(decide (e.i=y.row.i)&&e.fits s.q)) (s.path++[d]):=rfl;have e2:s.fst kd y.row.i=wH (λe:Dec=>decide (e.k=kd)&&(decide (e.i=y.row.i)&&e.fits s.q)) s.path:=rfl;have lt:=Y3 (λe:Dec=>decide (e.k=kd)&&(decide (e.i=y.row.i)&&e.fits s.q)) s.path;rw[e1] at hj';by_cases q:0<=wH (λe:Dec=>decide (e.k=kd)&&(decide (e.i=y.row.i)&&e.fits s.q)) s.path;{rw[ap.1 q] at hj';omega};{rw[ap.2 oM] at hj';split at hj';{rename_i g;simp only[yK,decide_eq_true_eq] at g;rw[g.1,g.2.1,e2];omega};{omega}});unfold Scp.rowD at hy;split at hy;{rename_i e;have:=h4 e;omega};{split at hy;{exact base 1 hy};{split at hy;{exact base 2 hy};{omega}}}
  rcases hr with⟨_,y,hy,e⟩|⟨n,hn',_,y,hy,e⟩;{exact row y (λe4=>absurd e4 (hl y hy).2) e}
  ·unfold Scp.pfn at hy;cases hx:(s.dplus d).lems[n.toNat]? with
   |none=>rw[hx] at hy;exact absurd hy (by simp)| some m =>
    rw[hx] at hy;have:=h.w.r n.toNat m hx y hy;exact row y this.p e
 refine UC hls List.nodup_nil ((Zn _).imp (λ{a b} g=>by omega)) (λa ha b hb hab e=>?_) (λa _ x _ g=>absurd g (by simp));obtain⟨i,ei,i1,_⟩:=jL.1 ha;obtain⟨j,ej,j1,_⟩:=jL.1 hb;have lit:∀ {x y:Dec},uk x->uk y->jE x=jE y->x.k=y.k/\x.i=y.i:=λ{x y} hx hy g=>by unfold jE uk at *;rw[if_pos hx,if_pos hy] at g;simp only[pE,Prod.mk.injEq,decide_eq_decide] at g;exact⟨by omega,g.1⟩
 have old:∀ i j:Nat,i<s.path.length->j<s.path.length->i<j->jE ((s.dplus d).dec i)=jE ((s.dplus d).dec j)->uk ((s.dplus d).dec i)->uk ((s.dplus d).dec j)->False:=λi j hi hj hij g ki kj=>by obtain⟨x,hx,ex⟩:=hold i hi;obtain⟨y,hy,ey⟩:=hold j hj;rw[ex] at g ki;rw[ey] at g kj;have:=Gz.1 hu.d i j hi hj hij;rw[(xP.1 hx).2,(xP.1 hy).2] at this;exact this ki kj (lit ki kj g).2
 have new:∀ i:Nat,i<s.path.length->(s.path.length:Int)∈wN ((s.dplus d).marks l).1->jE ((s.dplus d).dec i)=jE d->uk ((s.dplus d).dec i)->False:=λi hi hm g ki=>by obtain⟨x,hx,ex⟩:=hold i hi;rw[ex] at g ki;obtain⟨g1,g2⟩:=lit ki hd g;have hxm:=zX hx;have hfx:=hu.f x hxm ki;have:=hone _ rfl hm;have h2:0<=s.fst d.k d.i:=(WE _ _).2 (Vt.2 ⟨x,hxm,by simp[g1,g2,hfx]⟩);omega
 have ka:=lu a ha;have kb:=lu b hb;rw[ei] at e ka hab ha;rw[ej] at e kb hab hb;rcases qW i s.path.length with hi|hi
 ·rcases qW j s.path.length with hj|hj;{rcases Nat.lt_trichotomy i j with g|g|g;{exact old i j hi hj g e ka kb};{exact hab (by rw[g])};{exact old j i hj hi g e.symm kb ka}}
  ·(have:j=s.path.length:=by omega);subst this
   rw[hnew] at e;exact new i hi hb e ka
 ·(have:i=s.path.length:=by omega);subst this
  rw[hnew] at e;rcases qW j s.path.length with hj|hj;{exact new j hj ha e.symm kb};{exact hab (by congr 1;omega)}
end Go.Proofs.YtaeaffgjdcigoaaGreat
