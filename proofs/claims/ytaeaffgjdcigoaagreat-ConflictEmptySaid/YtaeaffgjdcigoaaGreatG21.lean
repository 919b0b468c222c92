/- A part of the proof: VaA, RwA, RwB, UtA, RvA, RvB, DvA. -/
import Derived.Test.YtaeaffgjdcigoaaGreatG20
import Derived.Test.YtaeaffgjdcigoaaGreatG19
set_option linter.all false
namespace Go.Proofs.YtaeaffgjdcigoaaGreat
open Go
set_option maxRecDepth 100000
set_option maxHeartbeats 2000000
def Oj (a:A)(vars:Int)(ha:a.sz (2^36)):zD 242 [.agg (ac a),.dptr [iV vars] 0] (bV (!a.valid vars)):=by
 refine sF Tryz.f242 ?_;have c1:=mX a vars ha;generalize a.valid vars=r at *;obtain⟨ts,c1',c2,c3⟩:=a;cbv;refine cA c1 ?_;cbv
 (refine rC ?_;cbv)
 exact vM rfl
def Kj {α:Type}(p:α->Bool)(l:List α):l.all p=!(l.any λa=>!(p a)):=by grind
def Oi (l:List A)(vars:Int)(hl:Asz (2^36) l):zD 193 [alv l,iV vars] (bV (l.all (A.valid vars))):=by
 refine sF Tryz.f193 ?_;have c1:=PU (λa=>!(a.valid vars)) l (fJ hl.len (by decide)) 242 [.dptr [iV vars] 0] (λa ha=>Oj a vars (hl.sz a ha));rw[Kj];generalize (l.any λa=>!(a.valid vars))=r at *;cbv;refine qF (.frz 3 rfl rfl (by repeat' first|exact trivial|apply And.intro) (by repeat' first|exact trivial|apply And.intro)) rfl (by exact⟨lR,⟨rfl,lR,trivial⟩,trivial⟩) c1 rfl ?_;cbv
 (refine rC ?_;cbv)
 exact vM rfl
def GD (k:Int)(f:A)(r:List A):vU k (f::r)=(f.valid k&&vU (k+1) r):=rfl
def CW (g:Grp)(hg:g.sz (2^36)):zD 149 [gv g] (bV g.valid):=by
 refine sF Tryz.f149 ?_;obtain⟨n,us,os⟩:=g;have hu:=hg.us.sz;have hul:=hg.us.len;have hol:=hg.os.len;have hos:=λvars=>Oi os vars hg.os;clear hg;simp only at hu hul hol hos;generalize hr:Grp.valid ⟨n,us,os⟩=r;have hr0:r=(decide (1<=n/\n<=256/\us.length<=1024/\1<=os.length/\os.length<=256)&&vU n us&&os.all (A.valid (n+us.length))):=hr.symm;clear hr;have hno:¬(1<=n/\n<=256/\us.length<=1024/\1<=os.length/\os.length<=256)->r=false:=λh=>by grind
 cbv;refine zQ (λe1=>?_) (λe1=>?_)
 ·cbv
  (refine rC ?_;cbv)
  exact zK (hno om)
 cbv;refine zQ (λe2=>?_) (λe2=>?_)
 ·cbv
  (refine rC ?_;cbv)
  exact zK (hno om)
 cbv;refine zQ (λe3=>?_) (λe3=>?_)
 ·cbv
  (refine rC ?_;cbv)
  exact zK (hno (by simp only[zA] at e3;exact om))
 cbv;refine zQ (λe4=>?_) (λe4=>?_)
 ·cbv
  (refine rC ?_;cbv)
  exact zK (hno (by simp only[zA] at e4;exact om))
 cbv;refine zE (λe5=>?_) (λe5=>?_)
 ·cbv
  (refine rC ?_;cbv)
  exact zK (hno (by simp only[zA] at e5;exact om))
 rw[zA] at e3 e4 e5
 (try dsimp only [zY] at *)
 rw[decide_eq_true oM,yN] at hr0;clear hno;cbv;refine zW (σ:=Nat) (λi=>⟨[(1,.ptr 1 0),(32,alv us),(33,iV us.length),(34,iV i)],[(1,.box [iV n,alv us,alv os])]⟩)
  (λi=>i<=us.length/\r=(vU (n+i) (us.drop i)&&os.all (A.valid (n+us.length)))) (λi=>us.length-i) 0 ⟨om,?_⟩ (.le ?_ ?_ rfl) ?_
 {grind};{cbv;exact⟨lR,lR,zB (by (try dsimp only [zY] at *);rw[zA]),lR,trivial⟩};{cbv;exact okA};clear hr0;intro i hs;obtain⟨h1,h2⟩:=hs;cbv;refine zE (λh5=>?_) (λh5=>?_)
 ·(cbv;refine xH (l:=us) i (by (grind) <;> (try simp only[zI] at *) <;> omega) om qS j6 (λt ht=>?_);have cv:=mX t (n+i) (hu t (zX ht));rw[zU ht,GD] at h2;have e:n+(i:Int)+1=n+((i+1:Nat):Int):=by omega);rw[e] at h2
  generalize hv:t.valid (n+i)=v at *;obtain⟨t1,t2,t3,t4⟩:=t;cbv;refine⟨zC om om,?_⟩;cbv;refine cA cv ?_;cbv;refine zP (λh6=>?_) (λh6=>?_);{subst h6;rw[yN] at h2;cbv;refine⟨zC om om,i+1,⟨om,h2⟩,om,.le ?_ ?_ rfl⟩;{cbv;exact⟨lR,lR,lR,zB om,trivial⟩};{cbv;exact okA}}
  ·subst h6;cbv
   (refine rC ?_;cbv)
   exact zK (by grind)
 {have hi:i=us.length:=om;rw[hi,wD] at h2;have h2':r=os.all (A.valid (n+us.length)):=h2;have cv:=hos (n+us.length);rw[<-h2'] at cv;clear h2 h2' hos;cbv;refine⟨zC (by rw[zA];exact om) (by rw[zA];exact om),?_⟩;cbv;refine yP rfl (by exact⟨lR,zB (by rw[zA]),trivial⟩) cv rfl ?_;cbv;exact rA}
def En (a:A)(vars:Int)(ha:a.sz (2^36)):zD 196 [.agg (ac a),.dptr [iV vars] 0] (bV (!a.valid vars)):=by
 refine sF Tryz.f196 ?_;have c1:=mX a vars ha;generalize a.valid vars=r at *;obtain⟨ts,c1',c2,c3⟩:=a;cbv;refine cA c1 ?_;cbv
 (refine rC ?_;cbv)
 exact vM rfl
theorem GF (l:R)(ls)(h:R)(hs):vB (l::ls) (h::hs)=(l.ok&&h.ok&&decide (wK l.q h.q<=0)&&vB ls hs):=rfl
def zO {α:Type}{l:List α}{i:Nat}(h:i<l.length):∃ a,l[i]?=some a:=⟨l[i],by simp[h]⟩
def CQ (g:Reg)(n:Int)(hg:g.sz (2^34)):zD 150 [rgv g,iV n] (bV (g.valid n)):=by
 refine sF Tryz.f150 ?_;obtain⟨lo,hi,rows⟩:=g;have hlo:=hg.lo.sz;have hhi:=hg.hi.sz;have hlol:=hg.lo.len;have hhil:=hg.hi.len;have hrl:=hg.rows.len;have hrs:=hg.rows.sz;simp only at hlo hhi hlol hhil hrl hrs;have cr:=PU (λa=>!(a.valid n)) rows (fJ hrl (by decide)) 196 [.dptr [iV n] 0] (λa ha=>En a n ((hrs a ha).mono (by decide)));generalize hr:Reg.valid n ⟨lo,hi,rows⟩=r;have hr0:r=(decide (1<=n/\n<=256/\(lo.length:Int)=n/\(hi.length:Int)=n/\rows.length<=256)&&vB lo hi&&rows.all (A.valid n)):=hr.symm;rw[Kj] at hr0;generalize (rows.any λa=>!(a.valid n))=bad at *;clear hr hrs hg;have hno:¬(1<=n/\n<=256/\(lo.length:Int)=n/\(hi.length:Int)=n/\rows.length<=256)->r=false:=λh=>by grind
 cbv;refine zQ (λe1=>?_) (λe1=>?_)
 ·cbv
  (refine rC ?_;cbv)
  exact zK (hno om)
 cbv;refine zQ (λe2=>?_) (λe2=>?_)
 ·cbv
  (refine rC ?_;cbv)
  exact zK (hno om)
 cbv;refine zQ (λe3=>?_) (λe3=>?_)
 ·cbv;refine zQ (λe4=>?_) (λe4=>?_)
  ·cbv;refine zE (λe5=>?_) (λe5=>?_)
   ·cbv
    (refine rC ?_;cbv)
    exact zK (hno (by simp only[zA] at e5;exact om))
   rw[zA] at e3 e4 e5
   (try dsimp only [zY] at *)
   rw[decide_eq_true oM,yN] at hr0;clear hno;cbv;refine zW (σ:=Nat) (λi=>⟨[(2,.ptr 2 0),(3,.ptr 3 0),(34,rlv lo),(35,iV lo.length),(36,iV i)],[(2,.box [rlv lo,rlv hi,alv rows]),(3,.box [iV n])]⟩)
    (λi=>i<=lo.length/\r=(vB (lo.drop i) (hi.drop i) && !bad)) (λi=>lo.length-i) 0 ⟨om,hr0⟩ (.le ?_ ?_ rfl) ?_
   {cbv;exact⟨lR,lR,lR,zB (by (try dsimp only [zY] at *);rw[zA]),lR,trivial⟩};{cbv;exact okA};clear hr0;intro i hs;obtain⟨h1,h2⟩:=hs;cbv;refine zE (λh5=>?_) (λh5=>?_)
   ·cbv;refine xH (l:=lo) i (by (grind) <;> (try simp only[zI] at *) <;> omega) om vA uF (λl hl=>?_);obtain⟨h,hh⟩:∃ h,hi[i]?=some h:=zO (by exact om);rw[zU hl,zU hh,GF] at h2;have hls:=hlo l (zX hl);have hhs:=hhi h (zX hh);have cl:=HO l (hls.mono (by decide));have ch:=HO h (hhs.mono (by decide));have cc:=OJ l h hls hhs;generalize wK l.q h.q=cq at *;generalize l.ok=o1 at *;generalize h.ok=o2 at *;obtain⟨l1,l2,l3⟩:=l;cbv;refine zM 22 (by cbv) ?_;cbv;refine dA cl ?_;cbv;refine yA (λe6=>?_) (λe6=>?_)
    ·(subst e6;cbv;refine xH (l:=hi) i (by (grind) <;> (try simp only[zI] at *) <;> omega) om vA uF (λh' hh'=>?_);obtain rfl:h'=h:=by grind);obtain⟨k1,k2,k3⟩:=h'
     cbv;refine dA ch ?_;cbv;refine yA (λe7=>?_) (λe7=>?_)
     ·(subst e7;cbv;refine xH (l:=hi) i (by (grind) <;> (try simp only[zI] at *) <;> omega) om vA uF (λh'' hh''=>?_);obtain rfl:h''=⟨k1,k2,k3⟩:=by grind);cbv
      refine dA cc ?_;cbv;refine zE (λe8=>?_) (λe8=>?_)
      ·cbv
       (refine rC ?_;cbv)
       exact zK (by grind)
      {rw[decide_eq_true oM] at h2;cbv;refine⟨zC om om,i+1,⟨om,h2⟩,om,.le ?_ ?_ rfl⟩;{cbv;exact⟨lR,lR,lR,lR,zB om,trivial⟩};{cbv;exact okA}}
     ·subst e7;cbv
      (refine rC ?_;cbv)
      exact zK (by grind)
    ·subst e6;cbv
     (refine rC ?_;cbv)
     exact zK (by grind)
   ·(have hi':i=lo.length:=om;rw[hi',wD] at h2;have h2':r=!bad:=by rw[h2];cases hi.drop lo.length <;> rfl);clear h2
    cbv;refine qF (.frz 3 rfl rfl (by repeat' first|exact trivial|apply And.intro) (by repeat' first|exact trivial|apply And.intro)) rfl (by exact⟨lR,⟨rfl,lR,trivial⟩,trivial⟩) cr rfl ?_;cbv
    (refine rC ?_;cbv)
    exact vM h2'
  ·cbv
   (refine rC ?_;cbv)
   exact zK (hno (by simp only[zA] at e4;exact om))
 ·cbv
  (refine rC ?_;cbv)
  exact zK (hno (by simp only[zA] at e3;exact om))
def mW (q:Qry)(hq:q.sz (2^34)):zD 80 [qv q] (bV q.valid):=by
 refine sF Tryz.f80 ?_;have cg:=CW q.g (hq.g.mono (by decide));have crg:=CQ q.r q.g.n hq.r;have cl:=mX q.goal q.g.vars (hq.goal.mono (by decide));have hul:=hq.g.us.len;have hr:q.valid=(q.g.valid&&q.r.valid q.g.n&&q.goal.valid q.g.vars):=rfl;have hn:q.g.valid=true->1<=q.g.n/\q.g.n<=256:=λh=>by unfold Grp.valid at h;grind
 rw[hr];clear hr hq;obtain⟨⟨n,us,os⟩,⟨lo,hi,rows⟩,⟨ts,c1,c2,c3⟩⟩:=q;simp only at hn hul cg crg cl ⊢;have hv:Grp.vars ⟨n,us,os⟩=n+us.length:=rfl;rw[hv] at cl ⊢;generalize Grp.valid ⟨n,us,os⟩=b1 at *;generalize Reg.valid n ⟨lo,hi,rows⟩=b2 at *;generalize hb3:A.valid (n+us.length) ⟨ts,c1,c2,c3⟩=b3 at *;cbv;refine cA cg ?_;cbv;refine yA (λe6=>?_) (λe6=>?_)
 ·subst e6;have hn':=hn rfl;cbv;refine cA crg ?_;cbv;refine yA (λe7=>?_) (λe7=>?_)
  ·subst e7;cbv;refine⟨zC (by rw[zA];exact om) (by rw[zA];exact om),?_⟩;refine yP rfl (by exact⟨okA,zB (by rw[zA]),trivial⟩) cl rfl ?_;cbv
   (refine rC ?_;cbv)
   exact z4 (by rfl)
  {subst e7;cbv;exact rA}
 {subst e6;cbv;exact rA}
abbrev R0:R:=⟨false,[],[]⟩
def Rc (x:R):zD 211 [rv x] (bV (decide (x=R0))):=by
 refine sF Tryz.f211 ?_;obtain⟨a,b,c⟩:=x;have h0:∀ l:List UInt32,((lm l).length:Int)=0↔l=[]:=λl=>by grind [zI,List.eq_nil_of_length_eq_zero]
 generalize hr:decide ((⟨a,b,c⟩:R)=R0)=r;have hr0:r=(!a&&(decide (((lm b).length:Int)=0)&&decide (((lm c).length:Int)=0))):=by simp_all
 clear hr;cbv;refine yA (λe=>?_) (λe=>?_)
 ·subst e;cbv
  (refine rC ?_;cbv)
  exact zK (by grind)
 ·subst e;cbv;refine zQ (λe=>?_) (λe=>?_)
  ·rw[decide_eq_true e] at hr0;cbv
   (refine rC ?_;cbv)
   exact z4 (by grind)
  ·rw[decide_eq_false e] at hr0;cbv
   (refine rC ?_;cbv)
   exact zK (by grind)
def XG (q:Qry)(d:Dec)(hd:d.x.sz (2^36)):zD 176 [qv q,dv d] (bV (d.fits q)):=by
 refine sF Tryz.f176 ?_;have cz:=Rc d.x;have cv:=HO d.x hd;have hr:d.fits q=if d.k=1\/d.k=2 then decide (0<=d.i/\d.i<q.g.us.length)&&decide (d.x=R0) else if d.k=3\/d.k=4 then decide (0<=d.i/\d.i<q.g.n)&&d.x.ok else false:=rfl
 generalize d.fits q=r at *;generalize decide (d.x=R0)=z at *;generalize d.x.ok=ok at *;obtain⟨⟨n,us,os⟩,⟨lo,hi,rows⟩,⟨ts,c1,c2,c3⟩⟩:=q;obtain⟨k,i,x1,x2,x3⟩:=d;simp only at hr;have u1:∀ (hk:k=1\/k=2),(0<=i->i<us.length->r=z)/\(¬(0<=i/\i<us.length)->r=false):=λhk=>by grind
 have u2:∀ (hk:k=3\/k=4),(0<=i->i<n->r=ok)/\(¬(0<=i/\i<n)->r=false):=λhk=>by grind
 have u3:¬(k=1\/k=2\/k=3\/k=4)->r=false:=λhk=>by grind
 clear hr;cbv;have hk:k=1\/k=2\/k=3\/k=4\/(k<=0\/5<=k):=by omega
 rcases hk with rfl|rfl|rfl|rfl|hk
 ·obtain⟨v1,v2⟩:=u1 (.inl rfl);clear u1 u2 u3;refine wZ rfl ?_;cbv;refine wZ rfl ?_;cbv;refine zQ (λe1=>?_) (λe1=>?_)
  ·cbv;refine zQ (λe2=>?_) (λe2=>?_)
   ·cbv;refine cA cz ?_;cbv
    (refine rC ?_;cbv)
    exact z4 (by rw[v1 om (by rw[zA] at e2;exact om)])
   ·cbv
    (refine rC ?_;cbv)
    exact zK (v2 (λh=>by rw[zA] at e2;exact om))
  ·cbv
   (refine rC ?_;cbv)
   exact zK (v2 (λh=>by exact om))
 ·obtain⟨v1,v2⟩:=u1 (.inr rfl);clear u1 u2 u3;refine yE (by simp) ?_;cbv;refine wZ rfl ?_;cbv;refine zQ (λe1=>?_) (λe1=>?_)
  ·cbv;refine zQ (λe2=>?_) (λe2=>?_)
   ·cbv;refine cA cz ?_;cbv
    (refine rC ?_;cbv)
    exact z4 (by rw[v1 om (by rw[zA] at e2;exact om)])
   ·cbv
    (refine rC ?_;cbv)
    exact zK (v2 (λh=>by rw[zA] at e2;exact om))
  ·cbv
   (refine rC ?_;cbv)
   exact zK (v2 (λh=>by exact om))
 ·obtain⟨v1,v2⟩:=u2 (.inl rfl);clear u1 u2 u3;refine yE (by simp) ?_;cbv;refine yE (by simp) ?_;cbv;refine wZ rfl ?_;cbv;refine wZ rfl ?_;cbv;refine zQ (λe1=>?_) (λe1=>?_)
  ·cbv;refine zQ (λe2=>?_) (λe2=>?_)
   ·cbv;refine cA cv ?_;cbv
    (refine rC ?_;cbv)
    exact z4 (by rw[v1 om (by exact om)])
   ·cbv
    (refine rC ?_;cbv)
    exact zK (v2 (λh=>by exact om))
  ·cbv
   (refine rC ?_;cbv)
   exact zK (v2 (λh=>by exact om))
 ·obtain⟨v1,v2⟩:=u2 (.inr rfl);clear u1 u2 u3;refine yE (by simp) ?_;cbv;refine yE (by simp) ?_;cbv;refine yE (by simp) ?_;cbv;refine wZ rfl ?_;cbv;refine zQ (λe1=>?_) (λe1=>?_)
  ·cbv;refine zQ (λe2=>?_) (λe2=>?_)
   ·cbv;refine cA cv ?_;cbv
    (refine rC ?_;cbv)
    exact z4 (by rw[v1 om (by exact om)])
   ·cbv
    (refine rC ?_;cbv)
    exact zK (v2 (λh=>by exact om))
  ·cbv
   (refine rC ?_;cbv)
   exact zK (v2 (λh=>by exact om))
 ·have hr:=u3 oM;clear u1 u2 u3;refine yE (by grind) ?_;cbv;refine yE (by grind) ?_;cbv;refine yE (by grind) ?_;cbv;refine yE (by grind) ?_;cbv
  (refine rC ?_;cbv)
  exact zK hr
def GW (q:Qry)(d:Dec)(hq:q.sz (2^34))(hd:d.x.sz (2^36)):zD 122 [qv q,dv d] (bV (q.valid&&d.fits q)):=by
 refine sF Tryz.f122 ?_;have c1:=mW q hq;have c2:=XG q d hd;generalize q.valid=b1 at *;generalize d.fits q=b2 at *;obtain⟨⟨n,us,os⟩,⟨lo,hi,rows⟩,⟨ts,c1',c2',c3⟩⟩:=q;obtain⟨k,i,x1,x2,x3⟩:=d;cbv;refine cA c1 ?_;cbv;refine yA (λe=>?_) (λe=>?_)
 ·subst e;cbv;refine cA c2 ?_;cbv
  (refine rC ?_;cbv)
  exact z4 rfl
 {subst e;cbv;exact rA}
def Row.plain (r:Row):Bool:=decide (r.lo=0)&&decide (r.hi=0)
def KQ (r:Row):zD 290 [rwv r] (bV r.plain):=by
 refine sF Tryz.f290 ?_;have hr:r.plain=(decide (r.lo=0)&&decide (r.hi=0)):=rfl;generalize r.plain=p at *;obtain⟨k,i,lo,hi⟩:=r;cbv;refine zQ (λe=>?_) (λe=>?_)
 ·simp only at hr;rw[decide_eq_true e,yN] at hr;cbv
  (refine rC ?_;cbv)
  exact z4 hr.symm
 ·simp only at hr;rw[decide_eq_false e] at hr;cbv
  (refine rC ?_;cbv)
  exact zK hr
def F.var (v:Int):F:=⟨[(v,1)],0⟩
def F.num (q:Rat):F:=⟨[],q⟩
def Qk (v:Int):zD 291 [iV v] (fv (F.var v)):=by
 refine sF Tryz.f291 ?_;have c1:=C5 1 (by decide) (by decide);have e:fv (F.var v)=.agg [.sl (λ_=>[xE [iV v,bV ((zG ((1:Int):Rat)).neg),nat (zG ((1:Int):Rat)).num,nat (zG ((1:Int):Rat)).den]]),bV R0.neg,nat R0.num,nat R0.den]:=by show av ⟨[(v,zG 1)],zG 0⟩=_;rw[u9];rfl
 rw[e];clear e;generalize zG ((1:Int):Rat)=o at *;obtain⟨o1,o2,o3⟩:=o;cbv;refine cA c1 ?_;cbv
 (refine rC ?_;cbv)
 exact⟨zS rfl,zK rfl,yX rfl,yX rfl,trivial⟩
def ZO (x:R)(hx:x.sz (2^36)):zD 292 [rv x] (fv (F.num x.q)):=by refine sF Tryz.f292 ?_;have c1:=Rz x hx;show wp _ _ (dT _ (.agg [tsv [],bV ((zG x.q).neg),nat (zG x.q).num,nat (zG x.q).den]) [] []);generalize zG x.q=w at *;obtain⟨w1,w2,w3⟩:=w;obtain⟨x1,x2,x3⟩:=x;cbv;refine cA c1 ?_;cbv;exact rA
def XF (f:A)(hf:f.sz (2^33)):zD 293 [av f] (fv (f.f.scale (-1))):=by refine sF Tryz.f293 ?_;have c1:=C5 (-1) (by decide) (by decide);have c2:=mY f (zG ((-1:Int):Rat)) hf ((oZ (-1) (by decide) (by decide)).mono (by decide));rw[zV] at c2;have e:f.f.scale ((-1:Int):Rat)=f.f.scale (-1):=rfl;rw[e] at c2;generalize fA (f.f.scale (-1))=W at *;generalize zG ((-1:Int):Rat)=o at *;obtain⟨ft,f1,f2,f3⟩:=f;obtain⟨wt,w1,w2,w3⟩:=W;cbv;refine zM 3 (by cbv) ?_;cbv;refine dA c1 ?_;cbv;refine dA c2 ?_;cbv;exact rA
def Scp.lem (s:Scp) (n unit:Int) (up:Bool):Option Rat :=
 if 1<=n/\n<=s.lems.length then
  match s.lems[(n-1).toNat]? with
  |some m=>if m.u=unit/\m.up=up then some m.v.q else none| none=>none
 else none
def Ws {s:Scp}{n unit:Int}{up:Bool}(h:¬(1<=n/\n<=s.lems.length)):s.lem n unit up=none:=if_neg h
def Wu {s:Scp}{n unit:Int}{up:Bool}{m:Lem}(h:1<=n)(h2:n<=s.lems.length)(hm:s.lems[(n-1).toNat]?=some m):s.lem n unit up=if m.u=unit/\m.up=up then some m.v.q else none:=by unfold Scp.lem;simp_all
def CO (s:Scp)(n unit:Int)(up:Bool)(hs:Lsz (2^36) s.lems):zD 294 [sv s,iV n,iV unit,bV up] (.tup [rv (zG ((s.lem n unit up).getD 0)),bV ((s.lem n unit up).isSome)]):=by
 refine sF Tryz.f294 ?_;have hno:¬(1<=n/\n<=s.lems.length)->s.lem n unit up=none:=λh=>Ws h;have hat:∀ m,1<=n->n<=s.lems.length->s.lems[(n-1).toNat]?=some m->s.lem n unit up=if m.u=unit/\m.up=up then some m.v.q else none:=λm h1 h2 h3=>Wu h1 h2 h3
 have hsl:=hs.len;have hss:=hs.sz;generalize s.lem n unit up=o at *;obtain⟨⟨⟨gn,us,os⟩,⟨lo,hi,rows⟩,⟨ts,c1,c2,c3⟩⟩,path,lems⟩:=s;simp only at hno hat hsl hss;have fin:∀ (W:R) (b:Bool),o=none->W=zG (o.getD 0)/\b=o.isSome->W=R0/\b=false:=λW b h1 h2=>by rw[h1] at h2;exact⟨by rw[h2.1];exact u9,h2.2⟩
 obtain⟨W,hW⟩:∃ W,W=zG (o.getD 0):=⟨_,rfl⟩;obtain⟨b,hb⟩:∃ b,b=o.isSome:=⟨_,rfl⟩;rw[<-hW,<-hb];have fin':o=none->W=R0/\b=false:=λh=>fin W b h ⟨hW,hb⟩;have fin2:∀ q,o=some q->W=zG q/\b=true:=λq h=>by grind
 clear fin hW hb;obtain⟨W1,W2,W3⟩:=W;have fin3:o=none->W1=false/\W2=[]/\W3=[]/\b=false:=λh=>by grind
 clear fin';cbv;refine zQ (λe1=>?_) (λe1=>?_);{cbv;obtain⟨g1,g2,g3,g4⟩:=fin3 (hno oM);subst g1 g2 g3 g4;exact rA};cbv;refine zQ (λe2=>?_) (λe2=>?_);{cbv;obtain⟨g1,g2,g3,g4⟩:=fin3 (hno (by rw[zA] at e2;exact om));subst g1 g2 g3 g4;exact rA};cbv;rw[zA] at e2;obtain⟨m,hm⟩:∃ m,lems[(n-1).toNat]?=some m:=zO (by exact om);have hat':=hat m oM (by exact om) hm;have hms:=hss m (zX hm);have cc:=Rz m.v hms;have idx:∀ {K:List PV->Prop},K (lc m)->IdxOk 6 (λ_=>enc lc lems) (λ_=>n-1) K:=λhK=>xH (l:=lems) (n-1).toNat oM (by exact om) y0 xD (λm' hm'=>by grind);generalize hq:m.v.q=q at *;obtain⟨mu,mup,⟨v1,v2,v3⟩,mpf⟩:=m;simp only at hat';clear hat hno hq;generalize hwq:zG q=wq at *;refine⟨zC om om,idx ?_⟩;cbv;refine zQ (λe3=>?_) (λe3=>?_);{cbv;refine⟨zC om om,idx ?_⟩;cbv;refine zE (λe4=>?_) (λe4=>?_);{cbv;obtain⟨g1,g2⟩:=fin2 q (by grind);rw[hwq] at g1;subst g1 g2;refine⟨zC om om,idx ?_⟩;cbv;refine cA cc ?_;cbv;exact rA};{cbv;obtain⟨g1,g2,g3,g4⟩:=fin3 (by grind);subst g1 g2 g3 g4;exact rA}};{cbv;obtain⟨g1,g2,g3,g4⟩:=fin3 (by grind);subst g1 g2 g3 g4;exact rA}
def Scp.dcd (s:Scp) (kind unit:Int):Bool:=s.path.any λd=>decide (d.k=kind)&&(decide (d.i=unit)&&d.fits s.q)
def Re (s:Scp)(kind unit:Int)(d:Dec)(hd:d.x.sz (2^36)):zD 311 [.agg (dc d),.dptr [iV kind] 0,.dptr [iV unit] 0,.dptr (sc s) 0] (bV (decide (d.k=kind)&&(decide (d.i=unit)&&d.fits s.q))):=by
 refine sF Tryz.f311 ?_;have cf:=XG s.q d hd;generalize d.fits s.q=ft at *;obtain⟨⟨⟨gn,us,os⟩,⟨lo,hi,rows⟩,⟨ts,c1,c2,c3⟩⟩,path,lems⟩:=s;obtain⟨k,i,x1,x2,x3⟩:=d;generalize hr:(decide (k=kind)&&(decide (i=unit)&&ft))=r;cbv;refine zQ (λe1=>?_) (λe1=>?_)
 ·rw[decide_eq_true e1,yN] at hr;cbv;refine zQ (λe2=>?_) (λe2=>?_)
  ·rw[decide_eq_true e2,yN] at hr;cbv;refine cA cf ?_;cbv
   (refine rC ?_;cbv)
   exact z4 hr
  ·rw[decide_eq_false e2] at hr;cbv
   (refine rC ?_;cbv)
   exact zK hr.symm
 ·rw[decide_eq_false e1] at hr;cbv
  (refine rC ?_;cbv)
  exact zK hr.symm
def CP (s:Scp)(kind unit:Int)(hs:Dsz (2^36) s.path):zD 310 [sv s,iV kind,iV unit] (bV (s.dcd kind unit)):=by refine sF Tryz.f310 ?_;have c1:=PT (λd=>decide (d.k=kind)&&(decide (d.i=unit)&&d.fits s.q)) s.path (fJ hs.len (by decide)) 311 [.dptr [iV kind] 0,.dptr [iV unit] 0,.dptr (sc s) 0] (λd hd=>Re s kind unit d (hs.sz d hd));have e:(s.path.any λd=>decide (d.k=kind)&&(decide (d.i=unit)&&d.fits s.q))=s.dcd kind unit:=rfl;rw[e] at c1;generalize s.dcd kind unit=r at *;obtain⟨⟨⟨gn,us,os⟩,⟨lo,hi,rows⟩,⟨ts,c1',c2,c3⟩⟩,path,lems⟩:=s;cbv;refine qF (.trans (.frz 3 rfl rfl (by repeat' first|exact trivial|apply And.intro) (by repeat' first|exact trivial|apply And.intro)) (.trans (.frz 4 rfl rfl (by repeat' first|exact trivial|apply And.intro) (by repeat' first|exact trivial|apply And.intro)) (.frz 5 rfl rfl (by repeat' first|exact trivial|apply And.intro) (by repeat' first|exact trivial|apply And.intro)))) rfl (by exact⟨lR,⟨rfl,lR,lR,lR,trivial⟩,trivial⟩) c1 rfl ?_;cbv;exact rA
abbrev usv (s:Scp) (r:Row) (v p:A) (l u:R) (low top:Bool):PV:=.agg [iV s.q.g.n,alv s.q.g.us,alv s.q.g.os,rlv s.q.r.lo,rlv s.q.r.hi,alv s.q.r.rows,tsv s.q.goal.ts,bV s.q.goal.c.neg,nat s.q.goal.c.num,nat s.q.goal.c.den,dlv s.path,llv s.lems,
 (iV r.k),iV r.i,iV r.lo,iV r.hi,tsv v.ts,bV v.c.neg,nat v.c.num,nat v.c.den,tsv p.ts,bV p.c.neg,nat p.c.num,nat p.c.den,
 (bV l.neg),nat l.num,nat l.den,bV u.neg,nat u.num,nat u.den,bV low,bV top]
def onB (s:Scp) (r:Row) (l:Rat) (low:Bool):Bool:=decide (r.hi=0)&&((decide (r.lo=0)&&s.dcd 1 r.i) || (low&&decide (0<=z3 l)))
def iD (s:Scp) (r:Row) (u:Rat) (top:Bool):Bool:=decide (r.lo=0)&&((decide (r.hi=0)&&s.dcd 2 r.i) || (top&&decide (z3 u<=0)))
def NW (s:Scp)(r:Row)(v p:A)(l u:R)(low top:Bool)(hs:Dsz (2^36) s.path)(hx:l.num.length<2^40):zD 295 [usv s r v p l u low top] (bV (onB s r l.q low)):=by
 refine sF Tryz.f295 ?_;have cd:=CP s 1 r.i hs;have cs:=s86 l hx;generalize hres:onB s r l.q low=res;have hr:res=(decide (r.hi=0)&&((decide (r.lo=0)&&s.dcd 1 r.i) || (low&&decide (0<=z3 l.q)))):=hres.symm;clear hres hs;generalize s.dcd 1 r.i=dd at *;generalize z3 l.q=sg at *;obtain⟨⟨⟨gn,us,os⟩,⟨lo,hi,rows⟩,⟨ts,c1,c2,c3⟩⟩,path,lems⟩:=s;obtain⟨k,i,rlo,rhi⟩:=r;obtain⟨vt,v1,v2,v3⟩:=v;obtain⟨pt,p1,p2,p3⟩:=p;obtain⟨l1,l2,l3⟩:=l;obtain⟨u1,u2,u3⟩:=u;simp only at hr;cbv;refine HU ?_;cbv;refine zQ (λe1=>?_) (λe1=>?_)
 ·rw[decide_eq_true e1,yN] at hr;cbv;refine zQ (λe2=>?_) (λe2=>?_)
  ·rw[decide_eq_true e2,yN] at hr;cbv;refine cA cd ?_;cbv;refine yA (λe3=>?_) (λe3=>?_)
   ·rw[e3,Vp] at hr;cbv
    (refine rC ?_;cbv)
    exact yH hr
   ·rw[e3,s6] at hr;cbv;refine yA (λe4=>?_) (λe4=>?_)
    ·rw[e4,yN] at hr;cbv;refine cA cs ?_;cbv
     (refine rC ?_;cbv)
     exact z4 hr.symm
    ·rw[e4,kK] at hr;cbv
     (refine rC ?_;cbv)
     exact zK hr
  ·rw[decide_eq_false e2,kK,s6] at hr;cbv;refine yA (λe4=>?_) (λe4=>?_)
   ·rw[e4,yN] at hr;cbv;refine cA cs ?_;cbv
    (refine rC ?_;cbv)
    exact z4 hr.symm
   ·rw[e4,kK] at hr;cbv
    (refine rC ?_;cbv)
    exact zK hr
 ·rw[decide_eq_false e1,kK] at hr;cbv
  (refine rC ?_;cbv)
  exact zK hr
def T7 (s:Scp)(r:Row)(v p:A)(l u:R)(low top:Bool)(hs:Dsz (2^36) s.path)(hx:u.num.length<2^40):zD 296 [usv s r v p l u low top] (bV (iD s r u.q top)):=by
 refine sF Tryz.f296 ?_;have cd:=CP s 2 r.i hs;have cs:=s86 u hx;generalize hres:iD s r u.q top=res;have hr:res=(decide (r.lo=0)&&((decide (r.hi=0)&&s.dcd 2 r.i) || (top&&decide (z3 u.q<=0)))):=hres.symm;clear hres hs;generalize s.dcd 2 r.i=dd at *;generalize z3 u.q=sg at *;obtain⟨⟨⟨gn,us,os⟩,⟨lo,hi,rows⟩,⟨ts,c1,c2,c3⟩⟩,path,lems⟩:=s;obtain⟨k,i,rlo,rhi⟩:=r;obtain⟨vt,v1,v2,v3⟩:=v;obtain⟨pt,p1,p2,p3⟩:=p;obtain⟨l1,l2,l3⟩:=l;obtain⟨u1,u2,u3⟩:=u;simp only at hr;cbv;refine HU ?_;cbv;refine zQ (λe1=>?_) (λe1=>?_)
 ·rw[decide_eq_true e1,yN] at hr;cbv;refine zQ (λe2=>?_) (λe2=>?_)
  ·rw[decide_eq_true e2,yN] at hr;cbv;refine cA cd ?_;cbv;refine yA (λe3=>?_) (λe3=>?_)
   ·rw[e3,Vp] at hr;cbv
    (refine rC ?_;cbv)
    exact yH hr
   ·rw[e3,s6] at hr;cbv;refine yA (λe4=>?_) (λe4=>?_)
    ·rw[e4,yN] at hr;cbv;refine cA cs ?_;cbv
     (refine rC ?_;cbv)
     exact z4 hr.symm
    ·rw[e4,kK] at hr;cbv
     (refine rC ?_;cbv)
     exact zK hr
  ·rw[decide_eq_false e2,kK,s6] at hr;cbv;refine yA (λe4=>?_) (λe4=>?_)
   ·rw[e4,yN] at hr;cbv;refine cA cs ?_;cbv
    (refine rC ?_;cbv)
    exact z4 hr.symm
   ·rw[e4,kK] at hr;cbv
    (refine rC ?_;cbv)
    exact zK hr
 ·rw[decide_eq_false e1,kK] at hr;cbv
  (refine rC ?_;cbv)
  exact zK hr
def yB {α:Type}{p:α->List PV}{n:Nat}{l:List α}{i:Nat}{a:α}{K:List PV->Prop}(h:l[i]?=some a)(hf:∀ a,yS qZ (p a)=true)(hn:∀ a,(p a).length=n)(hK:K (p a)):IdxOk n (λ_=>enc p l) (λ_=>(i:Int)) K :=
 xH (l:=l) i rfl (xP.1 h).1 hf hn (λa' ha'=>by rw[h] at ha';cases ha';exact hK)
def y6 {α:Type}{p:α->List PV}{n:Nat}{l:List α}{i:Nat}{k:Int}{a:α}{K:List PV->Prop}(h:l[i]?=some a)(hk:k=(i:Int))(hf:∀ a,yS qZ (p a)=true)(hn:∀ a,(p a).length=n)(hK:K (p a)):IdxOk n (λ_=>enc p l) (λ_=>k) K :=
 xH (l:=l) i hk (xP.1 h).1 hf hn (λa' ha'=>by rw[h] at ha';cases ha';exact hK)
def uL {α:Type}{p:α->List PV}{l:List α}{i:Nat}(h:(i:Int)<((enc p l).length:Int)):i<l.length:=by rw[zA] at h;omega
def kU {α:Type}{p:α->List PV}{l:List α}{i:Nat}(h:¬(i:Int)<((enc p l).length:Int))(h2:i<=l.length):i=l.length:=by rw[zA] at h;omega
def oS {rs:List ResultVar}{r:PV}{ps ps':PS}{n:Nat}{o:Obj'}(hw:Wk ps ps')(h3:lv r=true)(h4:yO ps'.objs n=some o)(h5:bA o=true)(h6:Nat.ble 1000000 n=true)(h:match dL ps' rs with
  |some l=>les (nE l) (ren id r)| none=>False):RetOk rs r [(n,o)] [] ps:=by
 cases h1:dL ps' rs with
 |none=>rw[h1] at h;exact h.elim| some l=>rw[h1] at h;exact⟨ps',l,id,hw,h1,dW h,h3,⟨⟨by rw[Wm];exact h4,h5⟩,trivial⟩,rfl,⟨rfl,Nat.le_of_ble_eq_true h6⟩,trivial⟩
def Dv (a:A)(vars:Int)(ha:a.sz (2^32)):zD 95 [av a,iV vars] (bV (a.valid vars)):=by
 refine sF Tryz.f95 ?_;obtain⟨ts,c⟩:=a;have hl:=ha.t.len;have hts:=ha.t.sz;have cc:=Dz c ha.c;generalize hr:A.valid vars ⟨ts,c⟩=r;have hr0:r=(vT vars (-1) ts&&c.ok):=hr.symm;simp only at hl hts cc;generalize c.ok=co at *;clear hr ha;cbv;refine zW (σ:=Nat×Int) (λs=>⟨[(1,iV vars),(2,.ptr 2 0),(5,iV s.1)],[(2,.box [tsv ts,bV c.neg,nat c.num,nat c.den])]⟩)
  (λs=>s.1<=ts.length/\r=(vT vars s.2 (ts.drop s.1)&&co)/\(s.1=0->s.2=-1)/\(s.1≠0->∃ u,ts[s.1-1]?=some u/\u.1=s.2)) (λs=>ts.length-s.1)
  (0,-1) ⟨om,hr0,λ_=>rfl,λh=>absurd rfl h⟩ (wkZ) ?_
 intro s hs;obtain⟨h1,hv,h3,h4⟩:=hs;generalize s.1=i at *;generalize s.2=p at *;cbv;refine zE (λh5=>?_) (λh5=>?_)
 ·(obtain⟨t,ht⟩:=zO (uL h5);rw[zU ht,YV] at hv;have htz:=hts t (zX ht);have cs:=s35 t.2 (by have:=htz.n;omega);have cv:=Dz t.2 htz;have hq:decide (t.2.q≠0)=decide (z3 t.2.q≠0):=by rw[decide_eq_decide];exact sgnQ_ne.symm);rw[hq] at hv
  (generalize z3 t.2.q=sg at *;generalize hok:t.2.ok=ok at *;generalize hrest:(vT vars t.1 (ts.drop (i+1))&&co)=rest;have hv':r=(decide (0<=t.1)&&decide (t.1<vars)&&decide (p<t.1)&&decide (sg≠0)&&ok&&rest):=by grind);have hi0:i<2^38:=by omega
  clear hv;cbv;refine yB ht wG wE ?_;cbv;refine zM 37 (by cbv) ?_;cbv;refine zQ (λe1=>?_) (λe1=>?_)
  ·cbv
   (refine rC ?_;cbv)
   exact zK (by grind)
  cbv;refine zQ (λe2=>?_) (λe2=>?_)
  ·cbv
   (refine rC ?_;cbv)
   exact zK (by grind)
  (cbv;have fin:(¬(p<t.1)->r=false):=λh=>by grind);have hmain:(p<t.1)->r=(decide (sg≠0)&&ok&&rest):=λh=>by grind
  clear hv';have tail:r=(decide (sg≠0)&&ok&&rest)->True:=λ_=>trivial;refine zQ (λe3=>?_) (λe3=>?_)
  ·obtain⟨u,hu,hu2⟩:=h4 om;cbv;refine⟨zC om om,y6 hu om wG wE ?_⟩;cbv;refine zQ (λe4=>?_) (λe4=>?_)
   ·cbv
    (refine rC ?_;cbv)
    exact zK (fin oM)
   have hm:=hmain oM;cbv;refine dA cs ?_;cbv;refine zQ (λe5=>?_) (λe5=>?_)
   ·cbv
    (refine rC ?_;cbv)
    exact zK (by grind)
   rw[decide_eq_true e5,yN] at hm;cbv;refine dA cv ?_;cbv;refine zP (λe6=>?_) (λe6=>?_);{rw[e6,yN] at hm;cbv;exact⟨zC om om,(i+1,t.1),⟨by grind,by grind,λh=>absurd h (by simp),λ_=>⟨_,ht,rfl⟩⟩,by grind,wkZ⟩}
   ·cbv
    (refine rC ?_;cbv)
    exact zK (by grind)
  ·have hp:=h3 om;have hm:=hmain oM;cbv;refine dA cs ?_;cbv;refine zQ (λe5=>?_) (λe5=>?_)
   ·cbv
    (refine rC ?_;cbv)
    exact zK (by grind)
   rw[decide_eq_true e5,yN] at hm;cbv;refine dA cv ?_;cbv;refine zP (λe6=>?_) (λe6=>?_);{rw[e6,yN] at hm;cbv;exact⟨zC om om,(i+1,t.1),⟨by grind,by grind,λh=>absurd h (by simp),λ_=>⟨_,ht,rfl⟩⟩,by grind,wkZ⟩}
   ·cbv
    (refine rC ?_;cbv)
    exact zK (by grind)
 ·(have he:=kU h5 h1;rw[he,wD] at hv;have hv':r=co:=by rw[hv];rfl);cbv
  refine cA cc ?_;cbv
  (refine rC ?_;cbv)
  exact z4 hv'.symm
def NZ (l:List A)(vars:Int)(hl:Asz (2^32) l):zD 155 [alv l,iV vars] (bV (l.all (A.valid vars))):=by
 refine sF Tryz.f155 ?_;have hll:=hl.len;have hls:=hl.sz;have hc:∀ a,a∈l->zD 95 [av a,iV vars] (bV (a.valid vars)):=λa h=>Dv a vars (hls a h);obtain⟨P,hP⟩:=ex (A.valid vars);rw[hP] at hc ⊢;generalize hr:l.all P=r;have hr0:r=(l.drop 0).all P:=hr.symm;clear hr hls hl;cbv;refine zW (σ:=Nat) (λi=>⟨[(0,alv l),(1,iV vars),(5,iV i)],[]⟩) (λi=>i<=l.length/\r=(l.drop i).all P) (λi=>l.length-i) 0 ⟨by omega,hr0⟩ (wkZ) ?_;intro i hi;obtain⟨h1,h2⟩:=hi;cbv;refine zE (λh5=>?_) (λh5=>?_)
 ·have hlt:=uL h5;obtain⟨a,ha⟩:=zO hlt;have ca:=hc a (zX ha);rw[zU ha,List.all_cons] at h2;generalize P a=pa at *;generalize hrest:(l.drop (i+1)).all P=rest at *;cbv;refine yB ha qS j6 ?_;cbv;refine cA ca ?_;cbv;refine zP (λe=>?_) (λe=>?_);{cbv;exact⟨zC om om,i+1,⟨om,by grind⟩,om,wkZ⟩}
  ·cbv
   (refine rC ?_;cbv)
   exact zK (by grind)
 ·have he:=kU h5 h1;rw[he,wD] at h2;have h2':r=true:=h2;cbv
  (refine rC ?_;cbv)
  exact yH h2'
def N1 (l:List R)(hl:Rsz (2^32) l):zD 156 [rlv l] (bV (l.all R.ok)):=by
 refine sF Tryz.f156 ?_;have hll:=hl.len;have hls:=hl.sz;have hc:∀ a,a∈l->zD 157 [rv a] (bV a.ok):=λa h=>Dz a (hls a h);obtain⟨P,hP⟩:=ex R.ok;rw[hP] at hc ⊢;generalize hr:l.all P=r;have hr0:r=(l.drop 0).all P:=hr.symm;clear hr hls hl;cbv;refine zW (σ:=Nat) (λi=>⟨[(0,rlv l),(3,iV i)],[]⟩) (λi=>i<=l.length/\r=(l.drop i).all P) (λi=>l.length-i) 0 ⟨by omega,hr0⟩ (wkZ) ?_;intro i hi;obtain⟨h1,h2⟩:=hi;cbv;refine zE (λh5=>?_) (λh5=>?_)
 ·have hlt:=uL h5;obtain⟨a,ha⟩:=zO hlt;have ca:=hc a (zX ha);rw[zU ha,List.all_cons] at h2;generalize P a=pa at *;generalize hrest:(l.drop (i+1)).all P=rest at *;cbv;refine yB ha vA uF ?_;cbv;refine cA ca ?_;cbv;refine zP (λe=>?_) (λe=>?_);{cbv;exact⟨zC om om,i+1,⟨om,by grind⟩,om,wkZ⟩}
  ·cbv
   (refine rC ?_;cbv)
   exact zK (by grind)
 ·have he:=kU h5 h1;rw[he,wD] at h2;have h2':r=true:=h2;cbv
  (refine rC ?_;cbv)
  exact yH h2'
def CV (g:Grp)(hg:g.sz (2^32)):zD 93 [gv g] (bV g.valid):=by
 refine sF Tryz.f93 ?_;obtain⟨n,us,os⟩:=g;have hus:=hg.us;have hos:=hg.os;have hc:∀ a,a∈us->∀ k,zD 95 [av a,iV k] (bV (a.valid k)):=λa h k=>Dv a k (hus.sz a h);have ca:=NZ os (n+us.length) hos;have hul:=hus.len;have hol:=hos.len;dsimp only at hul hol;generalize hr:Grp.valid ⟨n,us,os⟩=r;have hr0:r=(decide (1<=n/\n<=256/\us.length<=1024/\1<=os.length/\os.length<=256)&&vU n us&&os.all (A.valid (n+us.length))):=hr.symm;obtain⟨U,hU⟩:=ex vU;have hU0:∀ k,U k []=true:=λk=>by rw[<-hU];rfl
 have hU1:∀ k f l,U k (f::l)=(f.valid k&&U (k+1) l):=λk f l=>by rw[<-hU];rfl
 rw[hU] at hr0;generalize os.all (A.valid (n+us.length))=oa at *;have hf:¬(1<=n/\n<=256/\us.length<=1024/\1<=os.length/\os.length<=256)->r=false:=λh=>by grind
 have ht:(1<=n/\n<=256/\us.length<=1024/\1<=os.length/\os.length<=256)->r=(U n us&&oa):=λh=>by grind
 clear hr hr0 hU hg hus hos;cbv;refine zQ (λe1=>?_) (λe1=>?_)
 ·cbv
  (refine rC ?_;cbv)
  exact zK (hf okQ)
 cbv;refine zQ (λe2=>?_) (λe2=>?_)
 ·cbv
  (refine rC ?_;cbv)
  exact zK (hf okQ)
 cbv;refine zQ (λe3=>?_) (λe3=>?_)
 ·cbv
  (refine rC ?_;cbv)
  exact zK (hf okQ)
 cbv;refine zQ (λe4=>?_) (λe4=>?_)
 ·cbv
  (refine rC ?_;cbv)
  exact zK (hf okQ)
 cbv;refine zE (λe5=>?_) (λe5=>?_)
 ·cbv
  (refine rC ?_;cbv)
  exact zK (hf okQ)
 have hv:=ht okQ;have hn1:1<=n:=okQ;have hn2:n<=256:=okQ;have hu2:us.length<=1024:=okQ;clear ht hf e1 e2 e3 e4 e5;cbv;refine zW (σ:=Nat) (λi=>⟨[(1,.ptr 1 0),(3,iV i)],[(1,.box [iV n,alv us,alv os])]⟩) (λi=>i<=us.length/\r=(U (n+i) (us.drop i)&&oa)) (λi=>us.length-i) 0 ⟨by omega,by grind⟩ (wkZ) ?_;clear hv;intro i hi;obtain⟨h1,h2⟩:=hi;cbv;refine zE (λh5=>?_) (λh5=>?_)
 ·(have hlt:=uL h5;obtain⟨a,ha⟩:=zO hlt;have cv:=hc a (zX ha) (n+i);rw[zU ha,hU1] at h2;generalize a.valid (n+i)=pa at *;generalize hrest:U (n+i+1) (us.drop (i+1))=rest at *;have hrest':U (n+((i+1:Nat):Int)) (us.drop (i+1))=rest:=by grind);cbv
  refine zM 9 (by cbv) ?_;cbv;refine yB ha qS j6 ?_;cbv;refine⟨zC om om,?_⟩;cbv;refine cA cv ?_;cbv;refine zP (λe=>?_) (λe=>?_);{cbv;exact⟨zC om om,i+1,⟨om,by grind⟩,om,wkZ⟩}
  ·cbv
   (refine rC ?_;cbv)
   exact zK (by grind)
 ·have he:=kU h5 h1;rw[he,wD,hU0] at h2;have h2':r=oa:=h2;cbv;refine⟨zC okQ okQ,?_⟩;cbv;refine yP rfl (by refine⟨lR,zB ?_,trivial⟩;rw[zA]) ca rfl ?_;cbv
  (refine rC ?_;cbv)
  exact z4 h2'.symm
def oO (g:Grp)(hg:g.sz (2^32)):zD 51 [gv g] (iV (if g.valid=true then g.vars else 0)):=by
 refine sF Tryz.f51 ?_;have cv:=CV g hg;have hb:g.valid=true->1<=g.n/\g.n<=256/\g.us.length<=1024:=λh=>by unfold Grp.valid at h;grind
 have hd:g.vars=g.n+g.us.length:=rfl;generalize g.vars=w at *;generalize g.valid=b at *;obtain⟨n,us,os⟩:=g;dsimp only at hb hd;cbv;refine cA cv ?_;cbv;refine zP (λe=>?_) (λe=>?_)
 ·have hb':=hb e;cbv;refine⟨zC okQ okQ,?_⟩;cbv
  (refine rC ?_;cbv)
  exact zB (by rw[zA,if_pos e,hd])
 ·cbv
  (refine rC ?_;cbv)
  exact zB (by grind)
def cB:List R->List R->Bool
 |l::ls,h::hs=>decide (wK l.q h.q<=0)&&cB ls hs| _,_=>true
def Xj:∀ {lo hi:List R},lo.length=hi.length->vB lo hi=(lo.all R.ok&&(hi.all R.ok&&cB lo hi))
 |[],[],_=>rfl| l::ls,h::hs,e=>by have ih:=Xj (lo:=ls) (hi:=hs) (by grind);grind [GF,cB]| [],h::hs,e=>by simp at e| l::ls,[],e=>by simp at e
def PN (g:Reg)(n:Int)(hg:g.sz (2^31)):zD 94 [rgv g,iV n] (bV (g.valid n)):=by
 refine sF Tryz.f94 ?_;obtain⟨lo,hi,rows⟩:=g;have cl:=N1 lo (hg.lo.mono (by decide));have ch:=N1 hi (hg.hi.mono (by decide));have cr:=NZ rows n (hg.rows.mono (by decide));have hlo:=hg.lo.sz;have hhi:=hg.hi.sz;have hll:=hg.lo.len;have hhl:=hg.hi.len;have hrl:=hg.rows.len;dsimp only at hlo hhi hll hhl hrl;have cc:∀ a b,a∈lo->b∈hi->zD 48 [rv a,rv b] (iV (wK a.q b.q)):=λa b h1 h2=>s42 a b (hlo a h1) (hhi b h2);generalize hr:Reg.valid n ⟨lo,hi,rows⟩=r;have hr0:r=(decide (1<=n/\n<=256/\(lo.length:Int)=n/\(hi.length:Int)=n/\rows.length<=256)&&vB lo hi&&rows.all (A.valid n)):=hr.symm;have hf:¬(1<=n/\n<=256/\(lo.length:Int)=n/\(hi.length:Int)=n/\rows.length<=256)->r=false:=λh=>by grind
 have ht:(1<=n/\n<=256/\(lo.length:Int)=n/\(hi.length:Int)=n/\rows.length<=256)->r=(lo.all R.ok&&(hi.all R.ok&&cB lo hi)&&rows.all (A.valid n)):=λh=>by rw[hr0,decide_eq_true h,yN,Xj oM]
 obtain⟨C,hC⟩:=ex cB;have hC0:C [] []=true:=by rw[<-hC];rfl
 have hC1:∀ a l b m,C (a::l) (b::m)=(decide (wK a.q b.q<=0)&&C l m):=λ_ _ _ _=>by rw[<-hC];rfl
 rw[hC] at ht;generalize lo.all R.ok=la at *;generalize hi.all R.ok=ha at *;generalize rows.all (A.valid n)=ra at *;clear hr hr0 hC hlo hhi hg;cbv;refine zQ (λe1=>?_) (λe1=>?_)
 ·cbv
  (refine rC ?_;cbv)
  exact zK (hf okQ)
 cbv;refine zQ (λe2=>?_) (λe2=>?_)
 ·cbv
  (refine rC ?_;cbv)
  exact zK (hf okQ)
 cbv;refine zQ (λe3=>?_) (λe3=>?_)
 rotate_left
 ·cbv
  (refine rC ?_;cbv)
  exact zK (hf okQ)
 cbv;refine zQ (λe4=>?_) (λe4=>?_)
 rotate_left
 ·cbv
  (refine rC ?_;cbv)
  exact zK (hf okQ)
 cbv;refine zE (λe5=>?_) (λe5=>?_)
 ·cbv
  (refine rC ?_;cbv)
  exact zK (hf okQ)
 have hv:=ht okQ;have hn1:1<=n:=okQ;have hn2:n<=256:=okQ;have hn3:(lo.length:Int)=n:=okQ;have hn4:(hi.length:Int)=n:=okQ;clear ht hf e1 e2 e3 e4 e5;cbv;refine cA cl ?_;cbv;refine yA (λe=>?_) (λe=>?_)
 rotate_left
 ·cbv
  (refine rC ?_;cbv)
  exact zK (by grind)
 rw[e,yN] at hv;cbv;refine cA ch ?_;cbv;refine yA (λe=>?_) (λe=>?_)
 rotate_left
 ·cbv
  (refine rC ?_;cbv)
  exact zK (by grind)
 rw[e,yN] at hv;cbv;refine cA cr ?_;cbv;refine zP (λe=>?_) (λe=>?_)
 rotate_left
 ·cbv
  (refine rC ?_;cbv)
  exact zK (by grind)
 rw[e,Hb] at hv;cbv;refine zW (σ:=Nat) (λi=>⟨[(1,iV n),(2,.ptr 2 0),(5,iV i)],[(2,.box [rlv lo,rlv hi,alv rows])]⟩) (λi=>i<=lo.length/\r=C (lo.drop i) (hi.drop i)) (λi=>lo.length-i) 0 ⟨by omega,hv⟩ (wkZ) ?_;clear hv;intro i hi';obtain⟨h1,h2⟩:=hi';cbv;refine zE (λh5=>?_) (λh5=>?_)
 ·have hlt:i<lo.length:=okQ;obtain⟨a,ha⟩:=zO hlt;obtain⟨b,hb⟩:=zO (l:=hi) (i:=i) okQ;have cv:=cc a b (zX ha) (zX hb);rw[zU ha,zU hb,hC1] at h2;generalize wK a.q b.q=cq at *;generalize hrest:C (lo.drop (i+1)) (hi.drop (i+1))=rest at *;cbv;refine zM 10 (by cbv) ?_;cbv;refine yB ha vA uF ?_;cbv;refine yB hb vA uF ?_;cbv;refine cA cv ?_;cbv;refine zE (λe=>?_) (λe=>?_)
  ·cbv
   (refine rC ?_;cbv)
   exact zK (by grind)
  {cbv;exact⟨zC om om,i+1,⟨om,by grind⟩,om,wkZ⟩}
 ·have he:i=lo.length:=okQ;have he2:i=hi.length:=okQ;rw[show lo.drop i=[] by grind,show hi.drop i=[] by grind,hC0] at h2;cbv
  (refine rC ?_;cbv)
  exact yH h2
def oK (q:Qry)(hq:q.sz (2^31)):zD 34 [qv q] (bV q.valid):=by
 refine sF Tryz.f34 ?_;have c1:=CV q.g (hq.g.mono (by decide));have c2:=PN q.r q.g.n hq.r;have c3:=oO q.g (hq.g.mono (by decide));have c4:=Dv q.goal q.g.vars (hq.goal.mono (by decide));have hr:q.valid=(q.g.valid&&q.r.valid q.g.n&&q.goal.valid q.g.vars):=rfl;generalize q.valid=r at *;generalize q.g.valid=b1 at *;generalize q.r.valid q.g.n=b2 at *;generalize q.goal.valid q.g.vars=b3 at *;generalize q.g.vars=w at *;obtain⟨⟨n,us,os⟩,⟨lo,hi,rows⟩,⟨ts,x1,x2,x3⟩⟩:=q;cbv;refine zM 19 (by cbv) ?_;cbv;refine dA c1 ?_;cbv;refine yA (λe=>?_) (λe=>?_)
 rotate_left
 ·cbv
  (refine rC ?_;cbv)
  exact zK (by grind)
 rw[e,yN] at hr;cbv;refine dA c2 ?_;cbv;refine yA (λe2=>?_) (λe2=>?_)
 rotate_left
 ·cbv
  (refine rC ?_;cbv)
  exact zK (by grind)
 rw[e2,yN] at hr;cbv;refine dA c3 ?_;cbv;refine wB (by exact⟨okA,zB (if_pos e),trivial⟩) c4 rfl ?_;cbv
 (refine rC ?_;cbv)
 exact z4 hr.symm
def HF (q:Qry)(d:Dec)(hd:d.x.sz (2^32)):zD 163 [qv q,dv d] (bV (d.fits q)):=by
 refine sF Tryz.f163 ?_;have cz:=s69 d.x R0 hd ⟨by decide,by decide⟩;have cv:=Dz d.x hd;have hr:d.fits q=if d.k=1\/d.k=2 then decide (0<=d.i/\d.i<q.g.us.length)&&decide (d.x=R0) else if d.k=3\/d.k=4 then decide (0<=d.i/\d.i<q.g.n)&&d.x.ok else false:=rfl
 generalize d.fits q=r at *;generalize decide (d.x=R0)=z at *;generalize d.x.ok=ok at *;obtain⟨⟨n,us,os⟩,⟨lo,hi,rows⟩,⟨ts,c1,c2,c3⟩⟩:=q;obtain⟨k,i,x1,x2,x3⟩:=d;simp only at hr;have u1:∀ (hk:k=1\/k=2),(0<=i->i<us.length->r=z)/\(¬(0<=i/\i<us.length)->r=false):=λhk=>by grind
 have u2:∀ (hk:k=3\/k=4),(0<=i->i<n->r=ok)/\(¬(0<=i/\i<n)->r=false):=λhk=>by grind
 have u3:¬(k=1\/k=2\/k=3\/k=4)->r=false:=λhk=>by grind
 clear hr;cbv;have hk:(k=1\/k=2)\/(k=3\/k=4)\/(k<=0\/5<=k):=by omega
 rcases hk with hk|hk|hk
 ·obtain⟨v1,v2⟩:=u1 hk;clear u1 u2 u3;refine gD (σ:=Unit) (λ_=>⟨[(2,.ptr 2 0),(3,.ptr 3 0),(6,iV k),(7,.tt)],[(2,.box [iV n,alv us,alv os,rlv lo,rlv hi,alv rows,tsv ts,bV c1,nat c2,nat c3]),(3,.box [iV k,iV i,bV x1,nat x2,nat x3])]⟩) (λ_=>True) (λe=>?_) (λe=>?_) (λ_ _=>?_);{cbv;exact⟨(),trivial,.le (by cbv;exact⟨lR,lR,lR,⟨by simp only[Le,decide_eq_true_eq];exact e⟩,trivial⟩) okZ rfl⟩};{cbv;exact⟨(),trivial,.le (by cbv;exact⟨lR,lR,lR,⟨by simp only[Le,decide_eq_true_eq];exact om⟩,trivial⟩) okZ rfl⟩}
  ·cbv;refine zQ (λe1=>?_) (λe1=>?_)
   ·cbv;refine zQ (λe2=>?_) (λe2=>?_)
    ·cbv;refine cA cz ?_;cbv
     (refine rC ?_;cbv)
     exact z4 (by rw[v1 okQ okQ])
    ·cbv
     (refine rC ?_;cbv)
     exact zK (v2 okQ)
   ·cbv
    (refine rC ?_;cbv)
    exact zK (v2 okQ)
 ·obtain⟨v1,v2⟩:=u2 hk;clear u1 u2 u3;refine yE (by exact om) ?_;cbv;refine yE (by exact om) ?_;cbv;refine gD (σ:=Unit) (λ_=>⟨[(2,.ptr 2 0),(3,.ptr 3 0),(28,.tt)],[(2,.box [iV n,alv us,alv os,rlv lo,rlv hi,alv rows,tsv ts,bV c1,nat c2,nat c3]),(3,.box [iV k,iV i,bV x1,nat x2,nat x3])]⟩) (λ_=>True) (λe=>?_) (λe=>?_) (λ_ _=>?_);{cbv;exact⟨(),trivial,.le (by cbv;exact⟨lR,lR,⟨by simp only[Le,decide_eq_true_eq];exact e⟩,trivial⟩) okZ rfl⟩};{cbv;exact⟨(),trivial,.le (by cbv;exact⟨lR,lR,⟨by simp only[Le,decide_eq_true_eq];exact om⟩,trivial⟩) okZ rfl⟩}
  ·cbv;refine zQ (λe1=>?_) (λe1=>?_)
   ·cbv;refine zQ (λe2=>?_) (λe2=>?_)
    ·cbv;refine cA cv ?_;cbv
     (refine rC ?_;cbv)
     exact z4 (by rw[v1 okQ okQ])
    ·cbv
     (refine rC ?_;cbv)
     exact zK (v2 okQ)
   ·cbv
    (refine rC ?_;cbv)
    exact zK (v2 okQ)
 ·have hr:=u3 oM;refine yE (by exact om) ?_;cbv;refine yE (by exact om) ?_;cbv;refine yE (by exact om) ?_;cbv;refine yE (by exact om) ?_;cbv
  (refine rC ?_;cbv)
  exact zK hr
def G5 (q:Qry)(d:Dec)(hq:q.sz (2^31))(hd:d.x.sz (2^32)):zD 105 [qv q,dv d] (bV (q.valid&&d.fits q)):=by
 refine sF Tryz.f105 ?_;have c1:=oK q hq;have c2:=HF q d hd;generalize hr:(q.valid&&d.fits q)=r;generalize q.valid=b1 at *;generalize d.fits q=b2 at *;obtain⟨⟨n,us,os⟩,⟨lo,hi,rows⟩,⟨ts,x1,x2,x3⟩⟩:=q;obtain⟨k,i,y1,y2,y3⟩:=d;cbv;refine cA c1 ?_;cbv;refine yA (λe=>?_) (λe=>?_)
 ·cbv;refine cA c2 ?_;cbv
  (refine rC ?_;cbv)
  exact z4 (by grind)
 ·cbv
  (refine rC ?_;cbv)
  exact zK (by grind)
def cI (x y:Int):Int:=if x<y then -1 else if y<x then 1 else 0
def orI (x y:Int):Int:=if x≠0 then x else y
def dF (a b:Row):Int:=orI (cI a.k b.k) (orI (cI a.i b.i) (orI (cI a.lo b.lo) (cI a.hi b.hi)))
def BY {b:Bool}(h:b=true):LeS (.nbool (λ_=>b)) .ff:=⟨by simp[Le,h]⟩
def N4 (x:Int):zD 191 [iV x] .ff:=by
 refine sF Tryz.f191 ?_;cbv
 (refine rC ?_;cbv)
 exact BY (by simp)
def KT (x y:Int):zD 144 [iV x,iV y] (iV (cI x y)):=by
 refine sF Tryz.f144 ?_;have cx:=N4 x;have cy:=N4 y;have h1:x<y->cI x y=-1:=λh=>if_pos h;have h2:¬x<y->y<x->cI x y=1:=λh g=>by unfold cI;omega
 have h3:¬x<y->¬y<x->cI x y=0:=λh g=>by unfold cI;omega
 generalize cI x y=c at *;cbv;refine cA cx ?_;cbv;refine cA cy ?_;cbv;refine zE (λh=>?_) (λh=>?_)
 ·cbv
  (refine rC ?_;cbv)
  exact zB (h1 h).symm
 ·cbv;refine zE (λg=>?_) (λg=>?_)
  ·cbv
   (refine rC ?_;cbv)
   exact zB (h2 h g).symm
  ·cbv
   (refine rC ?_;cbv)
   exact zB (h3 h g).symm
def R4 (x:Int):List PV:=[iV x]
def DD (a:Int):yS qZ (R4 a)=true:=rfl
def BA (a:Int):(R4 a).length=1:=rfl
def orL:List Int->Int
 |[]=>0| x::r=>orI x (orL r)
def sOr (l:List Int)(hl:l.length<2^40):zD 289 [.sl (λ_=>enc R4 l)] (iV (orL l)):=by
 refine sF Tryz.f289 ?_;generalize hr:orL l=r;cbv;refine zW (σ:=Nat) (λi=>⟨[(3,iV 0),(6,.sl (λ_=>enc R4 l)),(7,iV l.length),(8,iV i)],[]⟩)
  (λi=>i<=l.length/\r=orL (l.drop i)) (λi=>l.length-i) 0 ⟨om,hr.symm⟩ (.le ?_ ?_ rfl) ?_
 {cbv;exact⟨lR,lR,zB (by (try dsimp only [zY] at *);rw[zA]),lR,trivial⟩};{cbv};clear hr;intro i hs;obtain⟨h1,h2⟩:=hs;cbv;refine zE (λh5=>?_) (λh5=>?_)
 ·(cbv;refine xH (l:=l) i (by (grind) <;> (try simp only[zI] at *) <;> omega) om DD BA (λt ht=>?_);rw[zU ht,show orL (t::l.drop (i+1))=orI t (orL (l.drop (i+1))) from rfl] at h2;have h3:t≠0->r=t:=λh=>by rw[h2];exact if_pos h);have h4:t=0->r=orL (l.drop (i+1)):=λh=>by rw[h2];exact if_neg (λg=>g h)
  clear h2;cbv;refine zE (λh6=>?_) (λh6=>?_);{have h4':=h4 h6;cbv;refine⟨zC om om,i+1,⟨om,h4'⟩,om,.le ?_ ?_ rfl⟩;{cbv;exact⟨lR,lR,lR,zB om,trivial⟩};{cbv}}
  ·have h3':=h3 h6;cbv
   (refine rC ?_;cbv)
   exact zB h3'.symm
 ·have:i=l.length:=om;rw[this,wD] at h2;cbv
  (refine rC ?_;cbv)
  exact zB h2.symm
def Mn (a b:Row):zD 271 [rwv a,rwv b] (iV (dF a b)):=by
 refine sF Tryz.f271 ?_;have c1:=KT a.k b.k;have c2:=KT a.i b.i;have c3:=KT a.lo b.lo;have c4:=KT a.hi b.hi;have c5:=sOr [cI a.k b.k,cI a.i b.i,cI a.lo b.lo,cI a.hi b.hi] (by simp);have e:orL [cI a.k b.k,cI a.i b.i,cI a.lo b.lo,cI a.hi b.hi]=dF a b:=by
  (unfold dF orL orL orL orL orL;have:∀ x,orI x 0=x:=λx=>by grind [orI]);rw[this]
 rw[e] at c5;generalize dF a b=r at *;generalize cI a.k b.k=x1 at *;generalize cI a.i b.i=x2 at *;generalize cI a.lo b.lo=x3 at *;generalize cI a.hi b.hi=x4 at *;cbv;refine zM 22 (by cbv) ?_;cbv;refine dA c1 ?_;cbv;refine dA c2 ?_;cbv;refine dA c3 ?_;cbv;refine dA c4 ?_;cbv;refine wB (by exact⟨zS rfl,trivial⟩) c5 rfl ?_;cbv;exact rA
def uN:Option Row->List Mult->Bool
 |_,[]=>true
 |p,m::r=>decide (0<z3 m.c.q)&&(m.c.ok&&((match p with
  |none=>true| some w=>decide (dF w m.row<0))&&uN (some m.row) r))
def Mp (l:List Mult)(hl:Msz (2^36) l):zD 229 [mlv l] (bV (uN none l)):=by
 refine sF Tryz.f229 ?_;have hll:=hl.len;have hls:=hl.sz;generalize hr:uN none l=r;cbv;refine zW (σ:=Nat×Option Row) (λs=>⟨[(0,mlv l),(5,mlv l),(6,iV l.length),(7,iV s.1)],[]⟩)
  (λs=>s.1<=l.length/\r=uN s.2 (l.drop s.1)/\(s.1=0->s.2=none)/\(s.1≠0->∃ u,l[s.1-1]?=some u/\s.2=some u.row)) (λs=>l.length-s.1)
  (0,none) ⟨om,hr.symm,λ_=>rfl,λh=>absurd rfl h⟩ (.le ?_ ?_ rfl) ?_
 {cbv;exact⟨lR,lR,zB (by (try dsimp only [zY] at *);rw[zA]),lR,trivial⟩};{cbv};clear hr;intro s hs;obtain⟨h1,hv,h3,h4⟩:=hs;generalize s.1=i at *
 generalize s.2=p at *;cbv;refine zE (λh5=>?_) (λh5=>?_)
 ·(cbv;refine xH (l:=l) i (by (grind) <;> (try simp only[zI] at *) <;> omega) om wY xN (λt ht=>?_);have htz:=hls t (zX ht);have cs:=s86 t.c (by have:=htz.n;omega);have cv:=HO t.c htz;have hd:l.drop i=t::l.drop (i+1):=zU ht;have hvn:(¬0<z3 t.c.q->r=false):=λh=>by grind [uN]);have hvo:t.c.ok=false->r=false:=λh=>by grind [uN]
  have hv0:0<z3 t.c.q->t.c.ok=true->p=none->r=uN (some t.row) (l.drop (i+1)):=λh g e=>by rw[hv,hd,e];show (decide (0<z3 t.c.q)&&(t.c.ok&&(true&&uN (some t.row) (l.drop (i+1)))))=_;grind
  (have hv1:∀ w,0<z3 t.c.q->t.c.ok=true->p=some w->r=(decide (dF w t.row<0)&&uN (some t.row) (l.drop (i+1))):=λw h g e=>by grind [uN]);clear hv
  generalize z3 t.c.q=sg at *;generalize t.c.ok=ok at *;generalize hrest:uN (some t.row) (l.drop (i+1))=rest at *;cbv;refine zM 26 (by cbv) ?_;cbv;refine dA cs ?_;cbv;refine zQ (λe1=>?_) (λe1=>?_)
  ·cbv
   (refine rC ?_;cbv)
   exact zK (hvn oM)
  cbv;refine dA cv ?_;cbv;refine yA (λe2=>?_) (λe2=>?_)
  rotate_left
  ·cbv
   (refine rC ?_;cbv)
   exact zK (hvo e2)
  cbv;refine zQ (λe3=>?_) (λe3=>?_)
  ·(cbv;obtain⟨u,hu,hu2⟩:=h4 om;have cc:=Mn u.row t.row;have hvv:=hv1 u.row oM e2 hu2;generalize dF u.row t.row=cr at *;refine⟨zC om om,xH (l:=l) (i-1) om om wY xN (λu' hu'=>?_)⟩;obtain rfl:u'=u:=by grind);cbv
   refine dA cc ?_;cbv;refine zE (λe4=>?_) (λe4=>?_)
   ·cbv
    (refine rC ?_;cbv)
    exact zK (by grind)
   {rw[decide_eq_true (show cr<0 by omega),yN] at hvv;cbv;exact⟨zC om om,(i+1,some t.row),⟨om,hvv.trans hrest.symm,λh=>absurd h (by simp),λ_=>⟨_,ht,rfl⟩⟩,om,.le (by cbv;exact⟨lR,lR,lR,zB om,trivial⟩) (by cbv) rfl⟩}
  {cbv;have hvv:=hv0 oM e2 (h3 om);exact⟨zC om om,(i+1,some t.row),⟨om,hvv.trans hrest.symm,λh=>absurd h (by simp),λ_=>⟨_,ht,rfl⟩⟩,om,.le (by cbv;exact⟨lR,lR,lR,zB om,trivial⟩) (by cbv) rfl⟩}
 ·have:i=l.length:=om;rw[this,wD] at hv;have hv':r=true:=hv;cbv
  (refine rC ?_;cbv)
  exact yH hv'
end Go.Proofs.YtaeaffgjdcigoaaGreat
