/- A part of the proof: RdB. -/
import Derived.Test.YtaeaffgjdcigoaaGreatG24
set_option linter.all false
namespace Go.Proofs.YtaeaffgjdcigoaaGreat
open Go
set_option maxRecDepth 100000
set_option maxHeartbeats 2000000
def bR (l:List Mult):List (Row×Rat):=l.foldl (λa m=>plMq a m.row m.c.q) []
def KX (l:List Mult):Int×List (Row×Rat):=if (l.any λm=>decide (z3 m.c.q<0))=true then (1,[]) else (0,bR l)
def XN (l:List Mult)(m:Mult):bR (l++[m])=plMq (bR l) m.row m.c.q:=by unfold bR;rw[List.foldl_append];rfl
theorem Qy (r:Row)(q:Rat):∀ l,(plM r q l).length<=l.length+1
 |[]=>by simp[plM]| t::rest=>by have:=Qy r q rest;unfold plM;split;{simp;omega};{split <;> simp}
def Fe {r:Row}{q:Rat}{k m:Nat}(hq:Fits m q):∀ {l:List (Row×Rat)},(∀ t,t∈l->Fits k t.2)->∀ t,t∈plM r q l->Fits (k+m+1) t.2
 |[],_,t,h=>by
  (have:t=(r,q):=by simpa[plM] using h);rw[this];exact hq.mono oM
 |a::rest,hl,t,h=>by unfold plM at h;split at h;{rcases yI.1 h with rfl|h;{exact (hl _ xV).mono oM};{exact Fe hq (λu hu=>hl u (xQ _ hu)) t h}};{split at h;{rcases yI.1 h with rfl|h;{exact (uK (hl a xV) hq).mono oM};{exact (hl t (xQ _ h)).mono oM}};{rcases yI.1 h with rfl|h;{exact hq.mono oM};{exact (hl t h).mono oM}}}
def nC {l:List (Row×Rat)}{r:Row}{q:Rat}{k m:Nat}(hq:Fits m q)(hl:∀ t,t∈l->Fits k t.2):∀ t,t∈plMq l r q->Fits (k+m+1) t.2:=λt h=>by unfold plMq at h;split at h;{exact (hl t h).mono oM};{exact Fe hq hl t h}
theorem o5 (l:List (Row×Rat))(r:Row)(q:Rat):(plMq l r q).length<=l.length+1:=by unfold plMq;split;{omega};{exact Qy r q l}
def XO {l:List Mult}(hs:Msz (2^20) l):∀ i,(∀ t,t∈bR (l.take i)->Fits (1+2^21*i) t.2)/\(bR (l.take i)).length<=i
 |0=>⟨λt h=>absurd h (by simp[bR]),by simp[bR]⟩| i+1=>by
  obtain⟨h1,h2⟩:=XO hs i;cases hx:l[i]? with
  |none =>
   (have:l.take (i+1)=l.take i:=by rw[dI,hx];simp);rw[this]
   exact⟨λt h=>(h1 t h).mono oM,by omega⟩
  |some m =>
   (have:l.take (i+1)=l.take i++[m]:=by rw[dI,hx];rfl);rw[this,XN]
   exact⟨λt h=>(nC ((hs.sz m (zX hx)).fits (by decide)) h1 t h).mono oM,by have:=o5 (bR (l.take i)) m.row m.c.q;omega⟩
def CS (l:List Mult)(hs:Msz (2^20) l)(hn:l.length<=100):zD 79 [mlv l] (.tup [mlv (mR (KX l).2),iV ((KX l).1)]):=by
 refine sF Tryz.f79 ?_;have hsz:=hs.sz;have hplus:∀ i m,l[i]?=some m->zD 112 [mlv (mR (bR (l.take i))),rwv m.row,rv m.c] (mlv (mR (bR (l.take (i+1))))):=λi m hm=>by
  (obtain⟨h1,h2⟩:=XO hs i;have hi:=(xP.1 hm).1;have:=Rm (bR (l.take i)) m.row m.c ⟨by omega,λt ht=>(h1 t ht).mono oM⟩ ((hsz m (zX hm)).mono (by decide));rw[<-XN] at this;have e:l.take (i+1)=l.take i++[m]:=by rw[dI,hm];rfl);rw[e]
  exact this
 have hneg:∀ m,m∈l->z3 m.c.q<0->KX l=(1,[]):=λm hm h=>if_pos (Vt.2 ⟨m,hm,by simpa using h⟩);have hpos:(∀ m,m∈l->¬z3 m.c.q<0)->KX l=(0,bR l):=λh=>if_neg (λe=>by obtain⟨m,h1,h2⟩:=Vt.1 e;exact h m h1 (by simpa using h2));obtain⟨P,hP⟩:∃ P:Nat->List (Row×Rat),∀ i,P i=bR (l.take i):=⟨_,λ_=>rfl⟩;have hplus':∀ i m,l[i]?=some m->zD 112 [mlv (mR (P i)),rwv m.row,rv m.c] (mlv (mR (P (i+1)))):=λi m hm=>by rw[hP,hP];exact hplus i m hm
 have hP0:P 0=[]:=by rw[hP];rfl
 have hPe:bR l=P l.length:=by rw[hP,wW]
 rw[hPe] at hpos;obtain⟨M,hM⟩:∃ M,M=(KX l).2:=⟨_,rfl⟩;obtain⟨e,he⟩:∃ e,e=(KX l).1:=⟨_,rfl⟩;rw[<-hM,<-he];have e0:∀ m,m∈l->z3 m.c.q<0->M=[]/\e=1:=λm h g=>by rw[hneg m h g] at hM he;exact⟨hM,he⟩
 have e1:(∀ m,m∈l->¬z3 m.c.q<0)->M=P l.length/\e=0:=λh=>by rw[hpos h] at hM he;exact⟨hM,he⟩
 clear hneg hpos hM he hplus hP hPe hs;cbv;refine zW (σ:=Nat) (λi=>⟨[(0,mlv l),(4,mlv (mR (P i))),(5,iV i)],[]⟩)
  (λi=>i<=l.length/\∀ (j:Nat) m,j<i->l[j]?=some m->¬z3 m.c.q<0) (λi=>l.length-i) 0 ⟨by omega,λj m h=>absurd h oM⟩ (.le ?_ ?_ rfl) ?_
 {cbv;exact⟨lR,yX (by rw[hP0];rfl),lR,trivial⟩};{cbv};clear hP0;intro i hi;obtain⟨h1,h2⟩:=hi;cbv;refine zE (λh5=>?_) (λh5=>?_)
 ·(have hlt:i<l.length:=by rw[zA] at h5;exact om);obtain⟨m,hm⟩:=zO hlt
  have hmem:=zX hm;have idx:∀ {K:List PV->Prop},K (mc m)->IdxOk 7 (λ_=>enc mc l) (λ_=>(i:Int)) K:=λhK=>xH (l:=l) i rfl hlt wY xN (λm' hm'=>by rw[hm] at hm';cases hm';exact hK);have cs:=s35 m.c (by have:=(hsz m hmem).n;omega);have cp:=hplus' i m hm;have e0':=e0 m hmem;have h2':¬z3 m.c.q<0->∀ (j:Nat) m,j<i+1->l[j]?=some m->¬z3 m.c.q<0:=λh j m' hj hm'=>by
   rcases qW j i with g|g;{exact h2 j m' g hm'}
   ·(have:j=i:=by omega);subst this
    rw[hm] at hm';cases hm';exact h
  generalize hsg:z3 m.c.q=sg at *;generalize hp1:P (i+1)=p1 at *;generalize P i=p0 at *;cbv;refine idx ?_;cbv;refine cA cs ?_;cbv;refine zE (λe2=>?_) (λe2=>?_);{obtain⟨q1,q2⟩:=e0' e2;cbv;subst q1 q2;exact rA};{have h3:=h2' e2;cbv;refine zM 13 (by cbv) ?_;cbv;refine idx ?_;cbv;refine idx ?_;cbv;refine dA cp ?_;cbv;exact⟨zC om om,i+1,⟨om,h3⟩,om,.le (by cbv;exact⟨lR,zS (by rw[hp1]),zB om,trivial⟩) (by cbv) rfl⟩}
 ·(have hi':i=l.length:=by rw[zA] at h5;exact om);obtain⟨q1,q2⟩:=e1 (λm hm=>by obtain⟨j,hj⟩:=List.getElem?_of_mem hm;exact h2 j m (by rw[hi'];exact (xP.1 hj).1) hj)
  rw[hi'];generalize P l.length=Q at *;subst q1 q2;cbv;exact rA
end Go.Proofs.YtaeaffgjdcigoaaGreat
