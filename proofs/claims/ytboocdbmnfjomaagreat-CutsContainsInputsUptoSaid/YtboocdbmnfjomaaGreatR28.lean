/- A part of the proof: SpO, SpP, SpQ, SpR, SpS, SpT, SpU, RtA, FdA. -/
import Derived.Test.YtboocdbmnfjomaaGreatR27
import Derived.Test.YtboocdbmnfjomaaGreatR22
import Derived.Test.YtboocdbmnfjomaaGreatR23
import Derived.Test.YtboocdbmnfjomaaGreatR26
set_option linter.all false
namespace Go.Proofs.YtboocdbmnfjomaaGreat
open Go
set_option maxRecDepth 100000
set_option maxHeartbeats 2000000
theorem R1 {s:Scp}{j k:Int}{b:Int}(h:s.onU j=true)(hb:b=if s.dcd 1 j=true then 0 else ((s.best j).1:Int)):onB s ⟨k,j,b,0⟩ ((s.lem b j false).getD 0) (s.lem b j false).isSome=true:=by
 unfold onB;by_cases hd:s.dcd 1 j=true;{rw[if_pos hd] at hb;rw[hb];dsimp only;rw[hd];simp}
 ·(rw[if_neg hd] at hb;unfold Scp.onU at h;have hd':s.dcd 1 j=false:=by simpa using hd);rw[hd',rU,yS,decide_eq_true_eq,decide_eq_true_eq] at h
  obtain⟨h1,h2⟩:=h;obtain⟨m,c1,c2,c3⟩:=(Xj s j).1 oM;rw[hb,pQ oM c1 c2 c3];simp[h2]
theorem BP {s:Scp}{j k:Int}{b:Int}(h:s.offU j=true)(hb:b=if s.dcd 2 j=true then 0 else ((s.best j).2:Int)):m0 s ⟨k,j,0,b⟩ ((s.lem b j true).getD 0) (s.lem b j true).isSome=true:=by
 unfold m0;by_cases hd:s.dcd 2 j=true;{rw[if_pos hd] at hb;rw[hb];dsimp only;rw[hd];simp}
 ·(rw[if_neg hd] at hb;unfold Scp.offU at h;have hd':s.dcd 2 j=false:=by simpa using hd);rw[hd',rU,yS,decide_eq_true_eq,decide_eq_true_eq] at h
  obtain⟨h1,h2⟩:=h;obtain⟨m,c1,c2,c3⟩:=(Xj s j).2 oM;rw[hb,pQ oM c1 c2 c3];simp[h2]
theorem LU {s:Scp}(hv:s.q.valid=true){i:Nat}{p:F}(hp:s.q.g.us[i]?=some (fA p))(h:s.onU i=true):∀ r,r∈s.rowsOn i->∃ f,s.fm r=some f:=λr hr=>by
 unfold Scp.rowsOn at hr;obtain⟨b,hb⟩:∃ b:Int,b=if s.dcd 1 i=true then 0 else ((s.best i).1:Int):=⟨_,rfl⟩
 rw[<-hb] at hr;have hon:=λk=>R1 (k:=k) h hb;have:r=⟨6,i,0,0⟩\/r=⟨7,i,b,0⟩\/r=⟨8,i,b,0⟩:=by simpa using hr
 rcases this with h|h|h <;> rw[h,dR hv (by decide) (by decide) hp]
 {exact⟨_,rfl⟩}
 ·exact⟨p.add F.zero,by
   show (if onB s ⟨7,i,b,0⟩ _ _=true then _ else none)=_;rw[if_pos (hon 7)]⟩
 ·exact⟨p.sub (F.var (s.q.g.n+i)),by
   show (if onB s ⟨8,i,b,0⟩ _ _=true then _ else none)=_;rw[if_pos (hon 8)]⟩
theorem MU {s:Scp}(hv:s.q.valid=true){i:Nat}{p:F}(hp:s.q.g.us[i]?=some (fA p))(h:s.offU i=true):∀ r,r∈s.rowsOff i->∃ f,s.fm r=some f:=λr hr=>by
 unfold Scp.rowsOff at hr;obtain⟨b,hb⟩:∃ b:Int,b=if s.dcd 2 i=true then 0 else ((s.best i).2:Int):=⟨_,rfl⟩
 rw[<-hb] at hr;have hoff:=λk=>BP (k:=k) h hb;have:r=⟨5,i,0,0⟩\/r=⟨9,i,0,b⟩\/r=⟨10,i,0,b⟩:=by simpa using hr
 rcases this with h|h|h <;> rw[h,dR hv (by decide) (by decide) hp]
 {exact⟨_,rfl⟩}
 ·exact⟨p.scale (-1),by
   show (if m0 s ⟨9,i,0,b⟩ _ _=true then _ else none)=_;rw[if_pos (hoff 9)]⟩
 ·exact⟨(F.var (s.q.g.n+i)).scale (-1),by
   show (if m0 s ⟨10,i,0,b⟩ _ _=true then _ else none)=_;rw[if_pos (hoff 10)]⟩
theorem RX {s:Scp}(hv:s.q.valid=true){i:Nat}{p:F}(hp:s.q.g.us[i]?=some (fA p))(h1:¬s.onU i=true)(h2:¬s.offU i=true):∀ r,r∈s.rowsOpen i->∃ f,s.fm r=some f:=λr hr=>by
 obtain⟨b1,b2⟩:=Xj s i;have lo:0<(s.best i).1->s.lem ((s.best i).1:Int) i false=some (wP s.lems (s.best i).1)/\yF (wP s.lems (s.best i).1)<0:=λh=>by obtain⟨m,c1,c2,c3⟩:=b1 oM;refine⟨pQ oM c1 c2 c3,?_⟩;by_cases g:yF (wP s.lems (s.best i).1)<0;{exact g};{exact absurd (by unfold Scp.onU;rw[decide_eq_true h,decide_eq_true (p:=0<=yF (wP s.lems (s.best i).1)) oM];simp) h1}
 have hi:0<(s.best i).2->s.lem ((s.best i).2:Int) i true=some (wP s.lems (s.best i).2)/\0<yF (wP s.lems (s.best i).2):=λh=>by obtain⟨m,c1,c2,c3⟩:=b2 oM;refine⟨pQ oM c1 c2 c3,?_⟩;by_cases g:0<yF (wP s.lems (s.best i).2);{exact g};{exact absurd (by unfold Scp.offU;rw[decide_eq_true h,decide_eq_true (p:=yF (wP s.lems (s.best i).2)<=0) oM];simp) h2}
 unfold Scp.rowsOpen at hr;rcases w6.1 hr with hr|hr
 ·rcases w6.1 hr with hr|hr
  ·rcases w6.1 hr with hr|hr
   ·(have:r=⟨5,i,0,0⟩\/r=⟨6,i,0,0⟩:=by simpa using hr);rcases this with h|h <;> rw[h,dR hv (by decide) (by decide) hp]
    {exact⟨_,rfl⟩};{exact⟨_,rfl⟩}
   ·split at hr
    ·(rename_i h;have:r=⟨11,i,((s.best i).1:Int),0⟩:=by simpa using hr);rw[this,dR hv (by decide) (by decide) hp,(lo h).1]
     exact⟨_,rfl⟩
    {exact absurd hr (by simp)}
  ·split at hr
   ·(rename_i h;have:r=⟨12,i,0,((s.best i).2:Int)⟩:=by simpa using hr);rw[this,dR hv (by decide) (by decide) hp,(hi h).1]
    exact⟨_,rfl⟩
   {exact absurd hr (by simp)}
 ·split at hr
  ·(rename_i h;have:r=⟨13,i,((s.best i).1:Int),((s.best i).2:Int)⟩:=by simpa using hr);rw[this,dR hv (by decide) (by decide) hp,(lo h.1).1,(hi h.2).1]
   refine⟨((p.sub (F.num (wP s.lems (s.best i).1))).scale (wP s.lems (s.best i).2)).sub ((F.var (s.q.g.n+i)).scale (wP s.lems (s.best i).2-wP s.lems (s.best i).1)),?_⟩;show (if _/\_/\_/\_ then _ else none)=_;rw[if_pos ⟨rfl,rfl,(lo h.1).2,(hi h.2).2⟩];rfl
  {exact absurd hr (by simp)}
theorem Pf {s:Scp}(hv:s.q.valid=true){i:Nat}{x:A}(hx:s.q.r.rows[i]?=some x):∃ f,s.fm ⟨3,i,0,0⟩=some f:=by
 unfold Scp.fm;rw[if_neg (by rw[hv];simp),if_pos (by show (3:Int)<=4;decide)];unfold Scp.fIn;rw[if_pos ⟨rfl,by show (0:Int)<=i;omega⟩,if_neg (by show ¬(3:Int)=1;decide),if_neg (by show ¬(3:Int)=2;decide),if_pos rfl];have e:((⟨3,i,0,0⟩:Row).i).toNat=i:=by show ((i:Int)).toNat=i;omega
 rw[e,hx];exact⟨_,rfl⟩
theorem NM {s:Scp}{x:FQry}(hq:s.q=x.q)(hs:x.small)(hx:x.ok):∀ r,r∈s.all->∃ f,s.fm r=some f:=λr hr=>by
 have hv:s.q.valid=true:=by rw[hq];exact hs.valid hx
 have hn:s.q.g.n=(x.g.n:Int):=by rw[hq];rfl
 unfold Scp.all at hr;rw[if_neg (by rw[hv];decide)] at hr;rcases w6.1 hr with hr|hr
 ·rcases w6.1 hr with hr|hr
  ·rcases w6.1 hr with hr|hr
   ·(obtain⟨i,hi,h⟩:=List.mem_flatMap.1 hr;have hi':i<x.g.n:=by have:=pZ.1 hi;omega);have:r=⟨1,i,0,0⟩\/r=⟨2,i,0,0⟩:=by simpa using h
    rcases this with h|h;{obtain⟨y,hy⟩:∃ y,s.q.r.lo[i]?=some y:=zY (by rw[hq];show i<(x.r.bs.map _).length;rw[yN,hs.r.bs];exact hi');rw[h];exact⟨_,Tc hv hy⟩};{obtain⟨y,hy⟩:∃ y,s.q.r.hi[i]?=some y:=zY (by rw[hq];show i<(x.r.bs.map _).length;rw[yN,hs.r.bs];exact hi');rw[h];exact⟨_,Te hv hy⟩}
   {obtain⟨i,hi,rfl⟩:=y9.1 hr;obtain⟨y,hy⟩:∃ y,s.q.r.rows[i]?=some y:=zY (pZ.1 hi);exact Pf hv hy}
  {obtain⟨i,hi,rfl⟩:=y9.1 hr;have h:=(List.mem_filter.1 hi).2;exact nO.1 h}
 ·obtain⟨j,hj,h⟩:=List.mem_flatMap.1 hr;have hj':j<x.g.us.length:=by
   (have:=pZ.1 hj;rw[hq] at this;have e:x.q.g.us.length=x.g.us.length:=by show (List.map fA _).length=_;rw[yN]);omega
  (have hp:s.q.g.us[j]?=some (fA x.g.us[j]):=by rw[hq];show (x.g.us.map fA)[j]?=_;rw[vH];simp[hj']);unfold Scp.rowsU at h;rcases w6.1 h with h|h
  {rcases w6.1 h with h|h;{split at h;{rename_i ho;exact LU hv hp ho r h};{exact absurd h (by simp)}};{split at h;{rename_i ho;exact MU hv hp ho r h};{exact absurd h (by simp)}}};{split at h;{exact absurd h (by simp)};{rename_i ho;exact RX hv hp (λg=>ho (.inl g)) (λg=>ho (.inr g)) r h}}
theorem Tt {s:Scp}{r:Row}{p v f:F}{l u:Option Rat}{N:Int}(hp:p.wf N)(hv:v.wf N)(h:unF s r p v l u=some f):f.wf N:=by
 have two:∀ {c:Prop} [Decidable c] {x:F},(if c then some x else none)=some f->x=f:=λh=>by split at h;{exact u9 h};{cases h}
 have num:=λq=>F.wf.num q N;unfold unF at h;by_cases h5:r.k=5;{rw[if_pos h5] at h;rw[<-two h];exact hv};rw[if_neg h5] at h;by_cases h6:r.k=6;{rw[if_pos h6] at h;rw[<-two h];exact hv.sub hp};rw[if_neg h6] at h;by_cases h7:r.k=7;{rw[if_pos h7] at h;rw[<-two h];exact hp.add (F.wf.zero0 N)};rw[if_neg h7] at h;by_cases h8:r.k=8;{rw[if_pos h8] at h;rw[<-two h];exact hp.sub hv};rw[if_neg h8] at h;by_cases h9:r.k=9;{rw[if_pos h9] at h;rw[<-two h];exact hp.scale};rw[if_neg h9] at h;by_cases h10:r.k=10;{rw[if_pos h10] at h;rw[<-two h];exact hv.scale};rw[if_neg h10] at h;by_cases h11:r.k=11;{rw[if_pos h11] at h;rw[<-two h];exact hp.sub (num _)};rw[if_neg h11] at h;by_cases h12:r.k=12;{rw[if_pos h12] at h;rw[<-two h];exact (num _).sub hp};rw[if_neg h12] at h;by_cases h13:r.k=13;{rw[if_pos h13] at h;rw[<-two h];exact (hp.sub (num _)).scale.sub hv.scale};rw[if_neg h13] at h;cases h
theorem Nh {s:Scp}{x:FQry}(hq:s.q=x.q)(hs:x.small)(hx:x.ok){r:Row}{f:F}(h:s.fIn r=some f):f.wf ((x.g.n+x.g.us.length:Nat):Int):=by
 have hn:s.q.g.n=(x.g.n:Int):=by rw[hq];rfl
 have num:=λq=>F.wf.num q ((x.g.n+x.g.us.length:Nat):Int);have hlo:s.q.r.lo.length=x.g.n:=by rw[hq];show (x.r.bs.map _).length=_;rw[yN,hs.r.bs]
 have hhi:s.q.r.hi.length=x.g.n:=by rw[hq];show (x.r.bs.map _).length=_;rw[yN,hs.r.bs]
 unfold Scp.fIn at h;by_cases h0:r.plain=true/\0<=r.i
 ·rw[if_pos h0] at h;by_cases h1:r.k=1;{rw[if_pos h1] at h;obtain⟨y,hy,rfl⟩:=bX.1 h;have:=(wI.1 hy).1;exact (F.wf.var h0.2 oM).sub (num _)};rw[if_neg h1] at h;by_cases h2:r.k=2;{rw[if_pos h2] at h;obtain⟨y,hy,rfl⟩:=bX.1 h;have:=(wI.1 hy).1;exact (num _).sub (F.wf.var h0.2 oM)};rw[if_neg h2] at h;by_cases h3:r.k=3;{rw[if_pos h3] at h;obtain⟨y,hy,rfl⟩:=bX.1 h;have hm:=z8 hy;rw[hq] at hm;obtain⟨g,hg,rfl⟩:=y9.1 hm;rw[kQ];exact ((hx.rows g hg).mono oM).add (F.wf.zero0 _)};rw[if_neg h3] at h;by_cases h4:r.k=4
  ·rw[if_pos h4] at h;split at h
   ·rename_i d hd;split at h
    ·(rename_i hfit;have hdi:d.k=3\/d.k=4->0<=d.i/\d.i<((x.g.n+x.g.us.length:Nat):Int):=λhk=>by unfold Dec.fits at hfit;rw[if_neg oM,if_pos hk,yS,decide_eq_true_eq] at hfit;omega);split at h
     {rename_i hk;cases h;obtain⟨d1,d2⟩:=hdi (.inl hk);exact (F.wf.var d1 d2).sub (num _)};{split at h;{rename_i hk;cases h;obtain⟨d1,d2⟩:=hdi (.inr hk);exact ((F.wf.var d1 d2).sub (num _)).scale};{cases h}}
    {cases h}
   {cases h}
  rw[if_neg h4] at h;cases h
 {rw[if_neg h0] at h;cases h}
theorem Ed {s:Scp}{x:FQry}(hq:s.q=x.q)(hs:x.small)(hx:x.ok)(r:Row)(f:F)(h:s.fm r=some f):f.wf ((x.g.n+x.g.us.length:Nat):Int):=by
 have hn:s.q.g.n=(x.g.n:Int):=by rw[hq];rfl
 unfold Scp.fm at h;split at h;{cases h};{split at h;{exact Nh hq hs hx h};{unfold Scp.fUn at h;split at h;{rename_i hi;split at h;{rename_i p hp;have hl:=(wI.1 hp).1;rw[hq] at hp;have hp':(x.g.us.map fA)[r.i.toNat]?=some p:=hp;rw[vH] at hp';obtain⟨g,hg,rfl⟩:=bX.1 hp';have hl2:=(wI.1 hg).1;rw[kQ] at h;exact Tt ((hx.us _ g hg).mono oM) (F.wf.var oM oM) h};{cases h}};{cases h}}}

def evX (X:Int->Rat):List (Int×Rat)->Rat
 |[]=>0| t::r=>t.2*X t.1+evX X r
def F.at (f:F) (X:Int->Rat):Rat:=f.c+evX X f.ts
theorem WP (X:Int->Rat)(v:Int)(q:Rat)(r):evX X (pc v q r)=q*X v+evX X r:=by unfold pc;split;{rename_i h;rw[h];grind};{rfl}
theorem lJ (X:Int->Rat)(c:Rat):∀ (a b:List (Int×Rat)),evX X (mrg c a b)=evX X a+evX X b*c
 |[],[]=>by rw[mrg];simp only[evX];grind| a::aa,[]=>by rw[mrg,WP,lJ X c aa []];simp only[evX];grind| [],b::bb=>by rw[mrg,WP,lJ X c [] bb];simp only[evX];grind| a::aa,b::bb=>by
  rw[mrg];split;{rw[WP,lJ X c aa (b::bb)];simp only[evX];grind}
  ·split;{rw[WP,lJ X c (a::aa) bb];simp only[evX];grind}
   ·(have:a.1=b.1:=by omega);rw[WP,lJ X c aa bb];simp only[evX,this];grind
termination_by a b=>a.length+b.length
theorem Vg (X:Int->Rat)(f g:F)(c:Rat):(f.merge g c).at X=f.at X+g.at X*c:=by show f.c+g.c*c+evX X (mrg c f.ts g.ts)=f.c+evX X f.ts+(g.c+evX X g.ts)*c;rw[lJ];grind
theorem Gv (X:Int->Rat)(f g:F):(f.add g).at X=f.at X+g.at X:=by unfold F.add;rw[Vg];grind
theorem bF (X:Int->Rat)(f g:F):(f.sub g).at X=f.at X-g.at X:=by unfold F.sub;rw[Vg];grind
theorem lS (X:Int->Rat):F.zero.at X=0:=by show (0:Rat)+0=0;grind
theorem s7 (X:Int->Rat)(f:F)(c:Rat):(f.scale c).at X=f.at X*c:=by unfold F.scale;rw[Vg];show F.zero.at X+_=_;rw[lS];grind
theorem t7 (X:Int->Rat)(v:Int):(F.var v).at X=X v:=by show (0:Rat)+(1*X v+0)=X v;grind
theorem t8 (X:Int->Rat)(q:Rat):(F.num q).at X=q:=by show q+0=q;grind
structure Pt (s:Scp) (X:Int->Rat):Prop where
 lo:∀ (i:Nat) x,s.q.r.lo[i]?=some x->x.q<=X i
 hi:∀ (i:Nat) x,s.q.r.hi[i]?=some x->X i<=x.q
 rows:∀ (i:Nat) f,s.q.r.rows[i]?=some f->0<=f.f.at X
 un:∀ (i:Nat) p,s.q.g.us[i]?=some p->0<=X (s.q.g.n+i)/\p.f.at X<=X (s.q.g.n+i)/\(X (s.q.g.n+i)=0\/X (s.q.g.n+i)=p.f.at X)
 ab:∀ d,d∈s.path->d.fits s.q=true->d.k=3->d.x.q<=X d.i
 be:∀ d,d∈s.path->d.fits s.q=true->d.k=4->X d.i<=d.x.q
 on:∀ d,d∈s.path->d.fits s.q=true->d.k=1->∀ (i:Nat) p,d.i=i->s.q.g.us[i]?=some p->0<=p.f.at X
 off:∀ d,d∈s.path->d.fits s.q=true->d.k=2->∀ (i:Nat) p,d.i=i->s.q.g.us[i]?=some p->p.f.at X<=0
def NU (s:Scp) (X:Int->Rat) (m:Lem):Prop:=∀ (i:Nat) p,m.u=i->s.q.g.us[i]?=some p->if m.up=true then p.f.at X<=m.v.q else m.v.q<=p.f.at X
def p6 (s:Scp) (X:Int->Rat):Prop:=∀ m,m∈s.lems->NU s X m
theorem Fp {s:Scp}{n unit:Int}{up:Bool}{v:Rat}(h:s.lem n unit up=some v):∃ m,m∈s.lems/\m.u=unit/\m.up=up/\m.v.q=v:=by unfold Scp.lem at h;split at h;{split at h;{rename_i m hm;split at h;{rename_i g;exact⟨m,z8 hm,g.1,g.2,u9 h⟩};{cases h}};{cases h}};{cases h}
theorem QE {s:Scp}{X:Int->Rat}(hl:p6 s X){n:Int}{i:Nat}{v:Rat}{p:A}(hp:s.q.g.us[i]?=some p)(h:s.lem n i false=some v):v<=p.f.at X:=by obtain⟨m,h1,h2,h3,h4⟩:=Fp h;have:=hl m h1 i p h2 hp;rw[h3,h4] at this;simpa using this
theorem H7 {s:Scp}{X:Int->Rat}(hl:p6 s X){n:Int}{i:Nat}{v:Rat}{p:A}(hp:s.q.g.us[i]?=some p)(h:s.lem n i true=some v):p.f.at X<=v:=by obtain⟨m,h1,h2,h3,h4⟩:=Fp h;have:=hl m h1 i p h2 hp;rw[h3,h4] at this;simpa using this
theorem FD {s:Scp}{k u:Int}(h:s.dcd k u=true):∃ d,d∈s.path/\d.k=k/\d.i=u/\d.fits s.q=true:=by unfold Scp.dcd at h;obtain⟨d,h1,h2⟩:=List.any_eq_true.1 h;simp only[yS,decide_eq_true_eq] at h2;exact⟨d,h1,h2.1,h2.2.1,h2.2.2⟩
theorem P8 {s:Scp}{X:Int->Rat}(hP:Pt s X)(hl:p6 s X){r:Row}{i:Nat}{p:A}(hi:r.i=i)(hp:s.q.g.us[i]?=some p)(h:onB s r ((s.lem r.lo r.i false).getD 0) (s.lem r.lo r.i false).isSome=true):0<=p.f.at X:=by
 unfold onB at h;simp only[yS,Vw,decide_eq_true_eq] at h;rcases h.2 with⟨_,h2⟩|⟨h1,h2⟩;{obtain⟨d,g1,g2,g3,g4⟩:=FD h2;exact hP.on d g1 g4 g2 i p oM hp}
 ·(obtain⟨v,hv⟩:=nO.1 h1;rw[hv] at h2;rw[hi] at hv;have:=QE hl hp hv;have h3:¬v<0:=λg=>by have:=oJ.2 g;simp only[ZB] at h2;omega);grind
theorem BQ {s:Scp}{X:Int->Rat}(hP:Pt s X)(hl:p6 s X){r:Row}{i:Nat}{p:A}(hi:r.i=i)(hp:s.q.g.us[i]?=some p)(h:m0 s r ((s.lem r.hi r.i true).getD 0) (s.lem r.hi r.i true).isSome=true):p.f.at X<=0:=by
 unfold m0 at h;simp only[yS,Vw,decide_eq_true_eq] at h;rcases h.2 with⟨_,h2⟩|⟨h1,h2⟩;{obtain⟨d,g1,g2,g3,g4⟩:=FD h2;exact hP.off d g1 g4 g2 i p oM hp}
 ·(obtain⟨v,hv⟩:=nO.1 h1;rw[hv] at h2;rw[hi] at hv;have:=H7 hl hp hv;have h3:¬0<v:=λg=>by have:=rI.2 g;simp only[ZB] at h2;omega);grind
theorem T8 {p v l u:Rat}(h1:l<=p)(h2:p<=u)(h3:l<0)(h4:0<u)(h5:v=0\/v=p)(h6:0<=v)(h7:p<=v):0<=(p-l)*u-v*(u-l):=by rcases h5 with rfl|rfl;{have:=Kl (a:=p-l) (b:=u) (by grind) (by grind);grind};{have:=Kl (a:=- l) (b:=u-v) (by grind) (by grind);grind}
theorem Cr {s:Scp}{X:Int->Rat}(hP:Pt s X)(hl:p6 s X){r:Row}{f:F}(h:s.fUn r=some f):0<=f.at X:=by
 have two:∀ {c:Prop} [Decidable c] {x:F},(if c then some x else none)=some f->c/\x=f:=λh=>by split at h;{rename_i g;exact⟨g,u9 h⟩};{cases h}
 unfold Scp.fUn at h;by_cases h0:0<=r.i/\r.i<s.q.g.us.length
 rotate_left
 {rw[if_neg h0] at h;cases h};rw[if_pos h0] at h;cases hp:s.q.g.us[r.i.toNat]? with
 |none=>rw[hp] at h;cases h
 |some p =>
 rw[hp] at h;dsimp only at h;have hi:r.i=(r.i.toNat:Nat):=by omega
 obtain⟨u1,u2,u3⟩:=hP.un _ p hp;rw[<-hi] at u1 u2 u3;unfold unF at h;by_cases h5:r.k=5;{rw[if_pos h5] at h;obtain⟨_,rfl⟩:=two h;rw[t7];exact u1};rw[if_neg h5] at h;by_cases h6:r.k=6;{rw[if_pos h6] at h;obtain⟨_,rfl⟩:=two h;rw[bF,t7];grind};rw[if_neg h6] at h;by_cases h7:r.k=7;{rw[if_pos h7] at h;obtain⟨g,rfl⟩:=two h;have:=P8 hP hl hi hp g;rw[Gv,lS];grind};rw[if_neg h7] at h;by_cases h8:r.k=8;{rw[if_pos h8] at h;obtain⟨g,rfl⟩:=two h;have:=P8 hP hl hi hp g;rw[bF,t7];grind};rw[if_neg h8] at h;by_cases h9:r.k=9;{rw[if_pos h9] at h;obtain⟨g,rfl⟩:=two h;have:=BQ hP hl hi hp g;rw[s7];grind};rw[if_neg h9] at h;by_cases h10:r.k=10;{rw[if_pos h10] at h;obtain⟨g,rfl⟩:=two h;have:=BQ hP hl hi hp g;rw[s7,t7];grind};rw[if_neg h10] at h;by_cases h11:r.k=11;{rw[if_pos h11] at h;obtain⟨g,rfl⟩:=two h;obtain⟨v,hv⟩:=nO.1 g.1;rw[hv];rw[hi] at hv;have:=QE hl hp hv;rw[bF,t8,ZB];grind};rw[if_neg h11] at h;by_cases h12:r.k=12;{rw[if_pos h12] at h;obtain⟨g,rfl⟩:=two h;obtain⟨v,hv⟩:=nO.1 g.1;rw[hv];rw[hi] at hv;have:=H7 hl hp hv;rw[bF,t8,ZB];grind};rw[if_neg h12] at h;by_cases h13:r.k=13;{rw[if_pos h13] at h;obtain⟨g,rfl⟩:=two h;obtain⟨g1,g2,g3,g4⟩:=g;obtain⟨l,hv⟩:=nO.1 g1;obtain⟨u,hw⟩:=nO.1 g2;rw[hv,ZB] at g3 ⊢;rw[hw,ZB] at g4 ⊢;rw[hi] at hv hw;have e1:=QE hl hp hv;have e2:=H7 hl hp hw;have:=T8 e1 e2 (oJ.1 g3) (rI.1 g4) u3 u1 u2;rw[bF,s7,s7,bF,t8,t7];exact this};rw[if_neg h13] at h;cases h
theorem Af {s:Scp}{X:Int->Rat}(hP:Pt s X){r:Row}{f:F}(h:s.fIn r=some f):0<=f.at X:=by
 unfold Scp.fIn at h;by_cases h0:r.plain=true/\0<=r.i
 rotate_left
 {rw[if_neg h0] at h;cases h};rw[if_pos h0] at h;have hi:r.i=(r.i.toNat:Nat):=by omega
 by_cases h1:r.k=1;{rw[if_pos h1] at h;obtain⟨y,hy,rfl⟩:=bX.1 h;have:=hP.lo _ y hy;rw[<-hi] at this;rw[bF,t7,t8];grind};rw[if_neg h1] at h;by_cases h2:r.k=2;{rw[if_pos h2] at h;obtain⟨y,hy,rfl⟩:=bX.1 h;have:=hP.hi _ y hy;rw[<-hi] at this;rw[bF,t7,t8];grind};rw[if_neg h2] at h;by_cases h3:r.k=3;{rw[if_pos h3] at h;obtain⟨y,hy,rfl⟩:=bX.1 h;have:=hP.rows _ y hy;rw[Gv,lS];grind};rw[if_neg h3] at h;by_cases h4:r.k=4
 ·rw[if_pos h4] at h;cases hd:s.path[r.i.toNat]? with
  |none=>rw[hd] at h;cases h
  |some d =>
   rw[hd] at h;dsimp only at h;have hm:=z8 hd;by_cases hf:d.fits s.q=true;{rw[if_pos hf] at h;by_cases k3:d.k=3;{rw[if_pos k3] at h;obtain rfl:=u9 h;have:=hP.ab d hm hf k3;rw[bF,t7,t8];grind};{rw[if_neg k3] at h;by_cases k4:d.k=4;{rw[if_pos k4] at h;obtain rfl:=u9 h;have:=hP.be d hm hf k4;rw[s7,bF,t7,t8];grind};{rw[if_neg k4] at h;cases h}}};{rw[if_neg hf] at h;cases h}
 rw[if_neg h4] at h;cases h
theorem Uc {s:Scp}{X:Int->Rat}(hP:Pt s X)(hl:p6 s X){r:Row}{f:F}(h:s.fm r=some f):0<=f.at X:=by unfold Scp.fm at h;split at h;{cases h};{split at h;{exact Af hP h};{exact Cr hP hl h}}
theorem Xu {s:Scp}{X:Int->Rat}(hP:Pt s X)(hl:p6 s X):∀ {l:List Mult} {acc f:F},(∀ m,m∈l->0<=m.c.q)->0<=acc.at X->sumL s acc l=some f->0<=f.at X
 |[],acc,f,_,h0,h=>by obtain rfl:=u9 h;exact h0
 |m::r,acc,f,hc,h0,h=>by
  unfold sumL at h;cases hm:s.fm m.row with
  |none=>rw[hm] at h;cases h
  |some g =>
   rw[hm] at h;refine Xu hP hl (λx hx=>hc x (wJ _ hx)) ?_ h;have h1:=Uc hP hl hm;have h2:=hc m wZ;have:=Kl h1 h2;rw[Gv,s7];grind
theorem FK:∀ {l:List Mult} {p:Option Row},b8 p l=true->∀ m,m∈l->0<=m.c.q
 |[],_,_,m,h=>absurd h (by simp)| a::r,p,hc,m,h=>by unfold b8 at hc;simp only[yS,decide_eq_true_eq] at hc;rcases yR.1 h with rfl|h;{have:=rI.1 hc.1;grind};{exact FK hc.2.2.2 m h}
theorem De {s:Scp}{X:Int->Rat}(hP:Pt s X)(hl:p6 s X){l:List Mult}(h:(s.sum l).1=0):0<=(s.sum l).2.at X:=by
 unfold Scp.sum at h ⊢;by_cases hc:b8 none l=false;{rw[if_pos hc];rw[lS];grind}
 ·rw[if_neg hc];cases hs:sumL s F.zero l with
  |none=>dsimp only;rw[lS];grind| some f=>exact Xu hP hl (FK (by simpa using hc)) (by rw[lS];grind) hs
theorem NJ {f:F}{X:Int->Rat}(h:f.ts.length=0):f.at X=f.c:=by show f.c+evX X f.ts=f.c;rw[Kp.1 h];show f.c+0=f.c;grind
theorem Qo {s:Scp}{X:Int->Rat}(hP:Pt s X)(hl:p6 s X){f:A}{l:List Mult}(h:s.proves f l=true):f.valid 9223372036854775807=true/\0<=f.f.at X:=by
 unfold Scp.proves at h;simp only[yS,decide_eq_true_eq] at h;obtain⟨h1,h2,h3,h4⟩:=h;refine⟨h2,?_⟩;have e1:=De hP hl h1;have e2:=bF X f.f (s.sum l).2;rw[NJ h3] at e2;have e3:¬(f.f.sub (s.sum l).2).c<0:=λg=>by have:=oJ.2 g;omega
 grind
theorem Pt.pre {s:Scp}{X:Int->Rat}(hP:Pt s X)(i:Nat):Pt (s.pre i) X:=⟨hP.lo,hP.hi,hP.rows,hP.un,hP.ab,hP.be,hP.on,hP.off⟩
theorem Ga {s:Scp}{X:Int->Rat}(hP:Pt s X)(hl:p6 s X){m:Lem}(h:s.lemB m=true):NU s X m:=by
 unfold Scp.lemB at h;simp only[yS,decide_eq_true_eq] at h;intro i p hi hp;have hp':s.q.g.us[m.u.toNat]?=some p:=by rw[hi];exact hp
 have h4:=h.2.2.2;rw[hp'] at h4;have:=(Qo hP hl h4).2;rw[kQ] at this;unfold Lem.form at this;split;{rename_i hu;rw[if_pos hu,s7,bF,t8] at this;grind};{rename_i hu;rw[if_neg hu,bF,t8] at this;grind}
theorem nA {s:Scp}{X:Int->Rat}(hP:Pt s X):∀ {l:List Lem} {i:Nat},s.lems.drop i=l->jG s i l=true->(∀ m,m∈s.lems.take i->NU s X m)->p6 s X
 |[],i,hd,_,h=>λm hm=>h m (by rw[yW (List.drop_eq_nil_iff.1 hd)];exact hm)| a::r,i,hd,hf,h=>by
  (unfold jG at hf;simp only[yS] at hf;have ha:s.lems[i]?=some a:=by rw[<-List.head?_drop,hd];rfl);have h1:=Ga (hP.pre i) h hf.1
  refine nA hP (i:=i+1) (by rw[<-eP,hd];rfl) hf.2 (λm hm=>?_);rw[rS,ha] at hm;rcases w6.1 hm with g|g;{exact h m g}
  ·(obtain rfl:m=a:=by simpa using g);exact h1
theorem KM {s:Scp}{X:Int->Rat}(hP:Pt s X)(h:s.scopeB=true):p6 s X:=by unfold Scp.scopeB at h;simp only[yS] at h;exact nA hP (i:=0) rfl h.2.2 (λm hm=>absurd hm (by simp))
theorem G3 (s:Scp)(n unit:Int)(up:Bool)(hs:Lsz (2^32) s.lems):zE 147 [sv s,iV n,iV unit,zM up] (.tup [rv (zI ((s.lem n unit up).getD 0)),zM ((s.lem n unit up).isSome)]):=by
 refine sF Tryz.f147 ?_;have hno:=λh=>H8 (s:=s) (n:=n) (unit:=unit) (up:=up) h;have hat:=λ(m:Lem) h1 h2 h3=>H9 (s:=s) (n:=n) (unit:=unit) (up:=up) (m:=m) h1 h2 h3;have hsl:=hs.len;have hss:=hs.sz;generalize s.lem n unit up=o at *;obtain⟨⟨⟨gn,us,os⟩,⟨lo,hi,rows⟩,⟨ts,c1,c2,c3⟩⟩,path,lems⟩:=s;simp only at hno hat hsl hss;have fin:∀ (W:R) (b:Bool),o=none->W=zI (o.getD 0)/\b=o.isSome->W=R0/\b=false:=λW b h1 h2=>by rw[h1] at h2;exact⟨by rw[h2.1];exact vR,h2.2⟩
 obtain⟨W,hW⟩:∃ W,W=zI (o.getD 0):=⟨_,rfl⟩;obtain⟨b,hb⟩:∃ b,b=o.isSome:=⟨_,rfl⟩;rw[<-hW,<-hb];have fin':o=none->W=R0/\b=false:=λh=>fin W b h ⟨hW,hb⟩;have fin2:∀ q,o=some q->W=zI q/\b=true:=λq h=>by grind
 clear fin hW hb;obtain⟨W1,W2,W3⟩:=W;have fin3:o=none->W1=false/\W2=[]/\W3=[]/\b=false:=λh=>by grind
 clear fin';cbv;refine zU (λe1=>?_) (λe1=>?_);{cbv;obtain⟨g1,g2,g3,g4⟩:=fin3 (hno oM);subst g1 g2 g3 g4;exact rA};cbv;refine zU (λe2=>?_) (λe2=>?_);{cbv;obtain⟨g1,g2,g3,g4⟩:=fin3 (hno (by rw[zB] at e2;exact om));subst g1 g2 g3 g4;exact rA};cbv;rw[zB] at e2;obtain⟨m,hm⟩:∃ m,lems[(n-1).toNat]?=some m:=zY (by exact om);have hat':=hat m oM (by exact om) hm;have hms:=hss m (z8 hm);have cc:=s47 m.v hms;have idx:∀ {K:List PV->Prop},K (lc m)->IdxOk 6 (λ_=>enc lc lems) (λ_=>n-1) K:=λhK=>wE (l:=lems) (n-1).toNat oM (by exact om) qI jO (λm' hm'=>by grind);generalize hq:m.v.q=q at *;obtain⟨mu,mup,⟨v1,v2,v3⟩,mpf⟩:=m;simp only at hat';clear hat hno hq;generalize hwq:zI q=wq at *;refine⟨zF om om,idx ?_⟩;cbv;refine zU (λe3=>?_) (λe3=>?_);{cbv;refine⟨zF om om,idx ?_⟩;cbv;refine zH (λe4=>?_) (λe4=>?_);{cbv;obtain⟨g1,g2⟩:=fin2 q (by grind);rw[hwq] at g1;subst g1 g2;refine⟨zF om om,idx ?_⟩;cbv;refine cA cc ?_;cbv;exact rA};{cbv;obtain⟨g1,g2,g3,g4⟩:=fin3 (by grind);subst g1 g2 g3 g4;exact rA}};{cbv;obtain⟨g1,g2,g3,g4⟩:=fin3 (by grind);subst g1 g2 g3 g4;exact rA}
theorem tD (s:Scp)(kind unit:Int)(hs:Dsz (2^32) s.path):zE 76 [sv s,iV kind,iV unit] (zM (s.dcd kind unit)):=by
 refine sF Tryz.f76 ?_;have cf:∀ d,d∈s.path->zE 92 [qv s.q,dv d] (zM (d.fits s.q)):=λd h=>HH s.q d (hs.sz d h);have hpl:=hs.len;generalize hr:s.dcd kind unit=r;have hr0:r=(s.path.drop 0).any (λd=>decide (d.k=kind)&&(decide (d.i=unit)&&d.fits s.q)):=hr.symm;obtain⟨ft,hft⟩:∃ ft:Dec->Bool,∀ d,ft d=d.fits s.q:=⟨_,λ_=>rfl⟩;simp only[<-hft] at cf hr0;obtain⟨P,hP⟩:∃ P:Dec->Bool,(λd=>decide (d.k=kind)&&(decide (d.i=unit)&&ft d))=P:=⟨_,rfl⟩;rw[hP] at hr0;have hPd:∀ d,P d=(decide (d.k=kind)&&(decide (d.i=unit)&&ft d)):=λd=>by grind
 clear hP hft hr hs;cbv;refine zZ (σ:=Nat) (λi=>⟨[(1,iV kind),(2,iV unit),(3,.ptr 3 0),(7,iV i)],[(3,.box (sc s))]⟩) (λi=>i<=s.path.length/\r=(s.path.drop i).any P) (λi=>s.path.length-i) 0 ⟨by omega,hr0⟩ (wkZ) ?_;clear hr0;intro i hi;obtain⟨h1,h2⟩:=hi;cbv;refine zH (λh5=>?_) (λh5=>?_)
 ·have hlt:=gL h5;obtain⟨d,hd⟩:=zY hlt;have cv:=cf d (z8 hd);rw[yI hd,List.any_cons,hPd] at h2;generalize ft d=fd at *;generalize hrest:(s.path.drop (i+1)).any P=rest at *;cbv;refine zP 28 (by cbv) ?_;cbv;refine yT hd aT tV ?_;cbv;refine zU (λe1=>?_) (λe1=>?_)
  rotate_left
  {rw[decide_eq_false e1,s9,rU] at h2;cbv;exact⟨zF om om,i+1,⟨om,by grind⟩,om,wkZ⟩};rw[decide_eq_true e1,yU] at h2;cbv;refine yT hd aT tV ?_;cbv;refine zU (λe2=>?_) (λe2=>?_)
  rotate_left
  {rw[decide_eq_false e2,s9,rU] at h2;cbv;exact⟨zF om om,i+1,⟨om,by grind⟩,om,wkZ⟩};rw[decide_eq_true e2,yU] at h2;cbv;refine yT hd aT tV ?_;cbv;refine dA cv ?_;cbv;refine zS (λe3=>?_) (λe3=>?_)
  ·rw[e3,Bool.true_or] at h2;cbv
   (refine rC ?_;cbv)
   exact yL h2
  {rw[e3,rU] at h2;cbv;exact⟨zF om om,i+1,⟨om,by grind⟩,om,wkZ⟩}
 ·have he:=r9 h5 h1;rw[he,w5] at h2;have h2':r=false:=h2;cbv
  (refine rC ?_;cbv)
  exact zN h2'
theorem P3 {f g:F}(hf:Cn f.ts)(hg:Cn g.ts){k n k' n':Nat}(h1:f.fl k n)(h2:g.fl k' n')(hk:k<=2^26)(hk':k'<=2^26)(hn:n<=2^35)(hn':n'<=2^35):zE 148 [fv f,fv g] (fv (f.add g)):=by have h:=C4 f.ts (zI f.c) (fA g) hf (by rw[show (fA g).ts=tR g.ts from rfl,V0];exact hg) ⟨by have:=h1.len;omega,λt ht=>(h1.t t ht).mono oM⟩ ((zX h1.c).mono oM) ((JJ h2 oM).mono oM) (by have:=h1.len;have:=h2.len;rw[show (fA g).ts=tR g.ts from rfl,vL];omega);rw[kQ,z7] at h;exact h
theorem Ys {f g:F}(hf:Cn f.ts)(hg:Cn g.ts){k n k' n':Nat}(h1:f.fl k n)(h2:g.fl k' n')(hk:k<=2^26)(hk':k'<=2^26)(hn:n<=2^35)(hn':n'<=2^35):zE 90 [fv f,fv g] (fv (f.sub g)):=by have h:=HG f.ts (zI f.c) (fA g) hf (by rw[show (fA g).ts=tR g.ts from rfl,V0];exact hg) ⟨by have:=h1.len;omega,λt ht=>(h1.t t ht).mono oM⟩ ((zX h1.c).mono oM) ((JJ h2 oM).mono oM) (by have:=h1.len;have:=h2.len;rw[show (fA g).ts=tR g.ts from rfl,vL];omega);rw[kQ,z7] at h;exact h
theorem rL {f:F}{q:Rat}{k n m:Nat}(h1:f.fl k n)(hq:Fits m q)(hk:k<=2^31)(hn:n<=2^35)(hm:m<=2^31):zE 24 [fv f,rv (zI q)] (fv (f.scale q)):=by have h:=oO (fA f) (zI q) ((JJ h1 oM).mono oM) ((zX hq).mono oM);rw[kQ,z7] at h;exact h
theorem Fe {x:R}(h:x.ok=true):zI x.q=x:=(of_decide_eq_true h).symm
theorem Kw {vars:Int}:∀ {ts:List (Int×R)} {p:Int},vT vars p ts=true->tR (tq ts)=ts/\Cn (tq ts)/\∀ t,t∈tq ts->p<t.1
 |[],p,_=>⟨rfl,Cn.nil,λt h=>absurd h (by simp[tq])⟩| t::r,p,h=>by rw[oF] at h;simp only[yS,decide_eq_true_eq] at h;obtain⟨⟨⟨⟨⟨h1,h2⟩,h3⟩,h4⟩,h5⟩,h6⟩:=h;obtain⟨g1,g2,g3⟩:=Kw h6;refine⟨?_,?_,λu hu=>?_⟩;{grind [tR,tq,Fe]};{exact Cn.cons (t:=(t.1,t.2.q)) g2 g3 h4};{rcases yR.1 hu with rfl|hu;{exact h3};{have:=g3 u hu;omega}}
theorem fR {a:A}{vars:Int}(h:a.valid vars=true):fA a.f=a/\Cn a.f.ts:=by unfold A.valid at h;simp only[yS] at h;obtain⟨g1,g2,_⟩:=Kw h.1;refine⟨?_,g2⟩;obtain⟨ts,c⟩:=a;show (⟨tR (tq ts),zI c.q⟩:A)=⟨ts,c⟩;grind [Fe]
theorem add_zero {f:F}(h:Cn f.ts):f.add F.zero=f:=by refine F.ext' ?_ ?_;{refine (Cn.mrg h Cn.nil).ext h (λv=>?_);grind [co,s5]};{show f.c+0*1=f.c;grind}
structure Qry.can (q:Qry):Prop where
 us:∀ a,a∈q.g.us->fA a.f=a/\Cn a.f.ts
 os:∀ a,a∈q.g.os->fA a.f=a/\Cn a.f.ts
 rows:∀ a,a∈q.r.rows->fA a.f=a/\Cn a.f.ts
 lo:∀ x,x∈q.r.lo->zI x.q=x
 hi:∀ x,x∈q.r.hi->zI x.q=x
theorem NZ:∀ {lo hi:List R},lo.length=hi.length->vB lo hi=true->(∀ x,x∈lo->zI x.q=x)/\∀ x,x∈hi->zI x.q=x:=λhe h=>by rw[Xo he] at h;simp only[yS,gH] at h;grind [Fe]
theorem Qry.can_of {q:Qry}(h:q.valid=true):q.can:=by unfold Qry.valid Grp.valid Reg.valid at h;simp only[yS,decide_eq_true_eq,gH] at h;obtain⟨⟨⟨⟨h1,h2⟩,h3⟩,⟨h4,h5⟩,h6⟩,h7⟩:=h;obtain⟨b1,b2⟩:=NZ oM h5;refine⟨λa ha=>?_,λa ha=>fR (h3 a ha),λa ha=>fR (h6 a ha),b1,b2⟩;obtain⟨j,_,hj⟩:=UW h2 ha;exact fR hj
def u8c (b:UInt8):List PV:=[.int .u8 (λ_=>(b.toNat:Int))]
theorem Ky (b:UInt8):y4 qV (u8c b)=true:=rfl
theorem UX (b:UInt8):(u8c b).length=1:=rfl
abbrev u8v (raw:List UInt8):PV:=.sl (λ_=>enc u8c raw)
abbrev fdo (raw:List UInt8) (a:Nat):List (Nat×Obj'):=[(1000000,.box [u8v raw,iV a])]
theorem aH (raw:List UInt8)(a n:Nat)(hr:raw.length<2^38)(hn:0<n)(hn2:n<2^60)(ha:a<=raw.length):Sound 74 [.ptr 1000000 0,iV n] (fdo raw a) [] (iV ((fdN raw n a:Int))) (fdo raw (na raw a)) []:=by
 refine sF Tryz.f74 ?_;have h0:¬a<raw.length->fdN raw n a=0:=λh=>by unfold fdN;grind
 have h1:∀ x,raw[a]?=some x->fdN raw n a=x.toNat%n:=λx h=>by grind [fdN]
 have n0:¬a<raw.length->na raw a=a:=λh=>if_neg h;have n1:a<raw.length->na raw a=a+1:=λh=>if_pos h;generalize fdN raw n a=r at *;generalize na raw a=b at *;cbv;refine zP 10 (by cbv) ?_;cbv;refine zH (λh=>?_) (λh=>?_)
 ·(have hlt:¬a<raw.length:=by rw[zB] at h;exact om);have e1:=h0 hlt
  have e2:=n0 hlt;cbv;subst e1 e2;exact XP rfl (lR) rfl rfl rfl rfl
 ·(have hlt:a<raw.length:=by rw[zB] at h;exact om);obtain⟨x,hx⟩:=zY hlt
  (have e1:=h1 x hx;have e2:=n1 hlt;cbv;refine⟨zF om om,?_⟩;cbv;refine zP 15 (by cbv) ?_;cbv;refine⟨zF om om,wE (l:=raw) a om hlt Ky UX (λx' hx'=>?_)⟩;obtain rfl:x'=x:=by grind);have hx8:=x'.toNat_lt
  cbv;refine⟨kI om,?_⟩;cbv;refine Qf (.le (ps':=⟨[(4,iV r)],[(1000000,.box [u8v raw,iV b])]⟩) ?_ ?_ rfl) rfl (lR) rfl rfl rfl rfl;{cbv;refine⟨zG ?_,trivial⟩;show irem (nx .i64 (x'.toNat:Int)) (n:Int)=_;unfold irem nx;rw[show IntKind.wrap .i64 (x'.toNat:Int)=(x'.toNat:Int) by grind [IntKind.wrap,IntKind.bits],e1];grind};{cbv;exact⟨⟨lR,zG om,trivial⟩,trivial⟩}
theorem D4 {k:Nat}(h:k<4):(k=0/\dnm k=1)\/(k=1/\dnm k=1)\/(k=2/\dnm k=2)\/(k=3/\dnm k=4):=by
 match k,h with
 |0,_=>exact .inl ⟨rfl,rfl⟩| 1,_=>exact .inr (.inl ⟨rfl,rfl⟩)| 2,_=>exact .inr (.inr (.inl ⟨rfl,rfl⟩))| 3,_=>exact .inr (.inr (.inr ⟨rfl,rfl⟩))
theorem HJ (raw:List UInt8)(a:Nat)(hr:raw.length<2^38)(ha:a<=raw.length):Sound 75 [.ptr 1000000 0] (fdo raw a) [] (rv (zI (fdQ raw a).1)) (fdo raw (fdQ raw a).2) []:=by refine sF Tryz.f75 ?_;have c9:=aH raw a 9 hr (by decide) (by decide) ha;have c4:=aH raw (na raw a) 4 hr (by decide) (by decide) (cJ ha);have h9:fdN raw 9 a<9:=gK (by decide);have h4:fdN raw 4 (na raw a)<4:=gK (by decide);have hd:=D4 h4;have hp:=FC (fdN raw 4 (na raw a));have cf:=s43 ((fdN raw 9 a:Int)-4) (dnm (fdN raw 4 (na raw a))) oM oM oM oM oM;have e1:(fdQ raw a).1=pY ((fdN raw 9 a:Int)-4) (dnm (fdN raw 4 (na raw a))):=rfl;have e2:(fdQ raw a).2=na raw (na raw a):=rfl;rw[e1,e2];show wp _ _ (fD _ (rv (zI (pY ((fdN raw 9 a:Int)-4) (dnm (fdN raw 4 (na raw a)))))) (fdo raw (na raw (na raw a))) []);generalize zI (pY ((fdN raw 9 a:Int)-4) (dnm (fdN raw 4 (na raw a))))=X at *;generalize dnm (fdN raw 4 (na raw a))=d at *;generalize fdN raw 9 a=k9 at *;generalize fdN raw 4 (na raw a)=k4 at *;generalize na raw (na raw a)=b2 at *;generalize na raw a=b1 at *;clear e1 e2 hp;cbv;refine kA (λ_=>1000000) c9 ?_;cbv;refine⟨zF om om,?_⟩;cbv;refine kA (λ_=>1000000) c4 ?_;rcases hd with⟨q1,q2⟩|⟨q1,q2⟩|⟨q1,q2⟩|⟨q1,q2⟩;{subst q1 q2;cbv;refine bW 0 rfl (by decide) ?_;cbv;refine cA cf ?_;cbv;exact Yu (.refl _) rfl rfl rfl rfl (by cbv;exact okA)};{subst q1 q2;cbv;refine bW 1 rfl (by decide) ?_;cbv;refine cA cf ?_;cbv;exact Yu (.refl _) rfl rfl rfl rfl (by cbv;exact okA)};{subst q1 q2;cbv;refine bW 2 rfl (by decide) ?_;cbv;refine cA cf ?_;cbv;exact Yu (.refl _) rfl rfl rfl rfl (by cbv;exact okA)};{subst q1 q2;cbv;refine bW 3 rfl (by decide) ?_;cbv;refine cA cf ?_;cbv;exact Yu (.refl _) rfl rfl rfl rfl (by cbv;exact okA)}
theorem Gl {raw:List UInt8}{n v:Nat}{f:F}{a:Nat}(h:¬0<fdN raw 3 a):eH raw (n+1) v f a=eH raw n (v+1) f (na raw a):=if_neg h
theorem Gk {raw:List UInt8}{n v:Nat}{f:F}{a:Nat}(h:0<fdN raw 3 a):eH raw (n+1) v f a=eH raw n (v+1) (f.add ((F.var v).scale (fdQ raw (na raw a)).1)) (fdQ raw (na raw a)).2:=if_pos h
theorem Qc (raw:List UInt8)(n a:Nat)(hr:raw.length<2^38)(ha:a<=raw.length)(hn:n<=100):Sound 119 [.ptr 1000000 0,iV n] (fdo raw a) [] (fv (fdF raw n a).1) (fdo raw (fdF raw n a).2) []:=by
 refine sF Tryz.f119 ?_;have cq:∀ b,b<=raw.length->Sound 75 [.ptr 1000000 0] (fdo raw b) [] (rv (zI (fdQ raw b).1)) (fdo raw (fdQ raw b).2) []:=λb hb=>HJ raw b hr hb;have c3:∀ b,b<=raw.length->Sound 74 [.ptr 1000000 0,iV 3] (fdo raw b) [] (iV ((fdN raw 3 b:Int))) (fdo raw (na raw b)) []:=λb hb=>aH raw b 3 hr (by decide) (by decide) hb;have hna:∀ b,b<=raw.length->na raw b<=raw.length:=λb hb=>cJ hb;have hq2:∀ b,b<=raw.length->(fdQ raw b).2<=raw.length:=λb hb=>eG hb;have hd:fdF raw n a=eH raw n 0 (F.num (fdQ raw a).1) (fdQ raw a).2:=rfl;show wp _ _ (fD _ (av (fA (fdF raw n a).1)) (fdo raw (fdF raw n a).2) []);generalize fdF raw n a=R at *;obtain⟨W,hW⟩:=ex (fA R.1);rw[hW];obtain⟨X0,hX0⟩:=ex (zI (fdQ raw a).1);have cq0:Sound 75 [.ptr 1000000 0] (fdo raw a) [] (rv X0) (fdo raw (fdQ raw a).2) []:=by subst hX0;grind
 cbv;refine kA (λ_=>1000000) cq0 ?_;cbv;refine zZ (σ:=Nat×Nat×F) (λs=>⟨[(0,.ptr 1000000 0),(1,iV n),(4,.ptr 4 0),(5,.ptr 5 0),(6,iV s.1)],
   [(1000000,.box [u8v raw,iV s.2.1]),(4,.box [.nil,.ff,.nil,.nil]),(5,.box [.sl (λ_=>enc tc (fA s.2.2).ts),zM ((fA s.2.2).c.neg),.sl (λ_=>lm (fA s.2.2).c.num),.sl (λ_=>lm (fA s.2.2).c.den)])]⟩)
  (λs=>s.1<=n/\s.2.1<=raw.length/\R=eH raw (n-s.1) s.1 s.2.2 s.2.1/\s.2.2.wf s.1/\s.2.2.fl (1+6*s.1) s.1) (λs=>n-s.1)
  (0,(fdQ raw a).2,F.num (fdQ raw a).1) ⟨by omega,hq2 a ha,hd,F.wf.num _ _,(kJ (jY raw a)).mono oM oM⟩ (.le ?_ ?_ rfl) ?_
 {cbv;exact okA};{cbv;subst hX0;exact okA};clear hd cq0 hX0;intro s hs;obtain⟨v,b,f⟩:=s;obtain⟨g1,g2,g3,g4,g5⟩:=hs;dsimp only at g1 g2 g3 g4 g5;cbv;refine zH (λh=>?_) (λh=>?_)
 ·have hv:v<n:=om;rw[show n-v=(n-(v+1))+1 by omega] at g3;have c3':=c3 b g2;generalize hk3:fdN raw 3 b=k3 at *;cbv;refine kA (λ_=>1000000) c3' ?_;cbv;refine zH (λh2=>?_) (λh2=>?_)
  ·(rw[Gk (by rw[hk3];exact om)] at g3;have hq:=jY raw (na raw b);have hb':=hq2 (na raw b) (hna b g2);have cn:=cq (na raw b) (hna b g2);have csc:=rL (f:=F.var v) (fC v) hq (by decide) (by decide) (by decide);have w2:((F.var v).scale (fdQ raw (na raw b)).1).wf ((v+1:Nat):Int):=(F.wf.var oM oM).scale;have l2:((F.var v).scale (fdQ raw (na raw b)).1).fl (1+1+2) 1:=(fC v).scale hq;have cad:=P3 g4.cn w2.cn g5 l2 oM oM oM oM;have w3:=(g4.mono (by omega:(v:Int)<=((v+1:Nat):Int))).add w2;have l3:=(g5.add l2).mono (k':=1+6*(v+1)) (n':=v+1) oM oM;generalize (fdQ raw (na raw b)).2=b' at *;generalize (fdQ raw (na raw b)).1=q at *;generalize hS:(F.var v).scale q=S at *;generalize hT:f.add S=T at *;obtain⟨V,hV⟩:=ex (fA (F.var v));obtain⟨S',hS'⟩:=ex (fA S);obtain⟨T',hT'⟩:=ex (fA T);obtain⟨X,hX⟩:=ex (zI q);obtain⟨f',hf'⟩:=ex (fA f);have d1:zE 22 [iV v] (av V):=by subst hV;exact ZQ v);have d2:zE 24 [av V,rv X] (av S'):=by subst hV hX hS';exact csc
   (have d3:zE 148 [av f',av S'] (av T'):=by subst hf' hS' hT';exact cad);have d4:Sound 75 [.ptr 1000000 0] (fdo raw (na raw b)) [] (rv X) (fdo raw b') []:=by simp_all
   rw[hf'];clear hV hX hS' csc cad cn;cbv;refine uI 6 [(4,1000000)] (by cbv) (by cbv) (by cbv) ?_;cbv;refine dA d1 ?_;cbv;refine WV (λ_=>1000000) rfl okA d4 rfl rfl rfl rfl rfl rfl ?_;cbv;refine dA d2 ?_;cbv;refine cA d3 ?_;cbv;refine⟨zF om om,(v+1,b',T),⟨om,hb',g3,w3,l3⟩,om,.le okZ ?_ rfl⟩;subst hT';exact okZ
  {rw[Gl (by rw[hk3];exact om)] at g3;have hb':=hna b g2;generalize na raw b=b' at *;cbv;exact⟨zF om om,(v+1,b',f),⟨om,hb',g3,g4.mono (by grind),g5.mono oM oM⟩,oM,wkZ⟩}
 ·(have hv:v=n:=om;have hR:R=(f,b):=by rw[g3,show n-v=0 by omega];rfl);subst hR
  have hW':fA f=W:=hW;cbv;subst hW';exact Yu (.refl _) rfl rfl rfl rfl (by cbv;exact okA)
end Go.Proofs.YtboocdbmnfjomaaGreat
