/- A part of the proof: KcP. -/
import Derived.Test.YtaeaffgjdcigoaaGreatD31
import Derived.Test.YtaeaffgjdcigoaaGreatD32
import Derived.Test.YtaeaffgjdcigoaaGreatD26
set_option linter.all false
namespace Go.Proofs.YtaeaffgjdcigoaaGreat
open Go
set_option maxRecDepth 100000
set_option maxHeartbeats 4000000
def Scp.phs (s:Scp) (j:Int):Int:=if s.onU j=true then 1 else if s.offU j=true then 2 else 0
def Ni (s:Scp)(j:Nat)(hs:s.sz (2^20))(hv:s.q.valid=true)(hj:j<s.q.g.us.length):zD 44 [sv s,iV j] (iV (s.phs j)):=by
 refine sF Tryz.f44 ?_;have cv:=lE s.q (hs.q.mono (by decide));rw[hv] at cv;have cp:=Rq s j hs;have hr:s.phs j=if s.onU j=true then 1 else if s.offU j=true then 2 else 0:=rfl
 generalize s.phs j=r at *;generalize s.onU j=b1 at *;generalize s.offU j=b2 at *;clear hs hv;cbv;refine cA cv ?_;cbv;refine sG rfl ?_;cbv;refine yD (by exact om) ?_;cbv;refine yF (by rw[zA];exact om) ?_;cbv;refine cA cp ?_;cbv;refine zN (λe=>?_) (λe=>?_)
 ·rw[if_pos e] at hr;cbv
  (refine rC ?_;cbv)
  exact zB hr.symm
 rw[if_neg (by rw[e];decide)] at hr;cbv;refine zN (λe2=>?_) (λe2=>?_)
 ·rw[if_pos e2] at hr;cbv
  (refine rC ?_;cbv)
  exact zB hr.symm
 ·rw[if_neg (by rw[e2];decide)] at hr;cbv
  (refine rC ?_;cbv)
  exact zB hr.symm
def Nh (f:A)(q:Rat)(hf:f.c.sz (2^30))(hq:Fits (2^30) q):zD 45 [av f,rv (zI q)] (av (rG f q)):=by
 refine sF Tryz.f45 ?_;have c:=s93 f.c (zI q) (hf.mono (by decide)) ((zU hq).mono (by decide));rw[z9] at c;have hn:(zI q).neg=decide (q<0):=by show decide (q.num<0)=_;rw[decide_eq_decide];have h1:=@Rat.num_nonneg q;constructor <;> intro h <;> (refine Decidable.byContradiction λh2=>?_) <;> grind
 obtain⟨RA,hRA⟩:=ex (rG f q);have h1:q<0->RA=⟨f.ts,zI (f.c.q-q)⟩:=λh=>by rw[<-hRA];unfold rG;rw[if_pos h]
 have h2:¬q<0->RA=f:=λh=>by rw[<-hRA];unfold rG;rw[if_neg h]
 rw[hRA];clear hRA;generalize zI (f.c.q-q)=W at *;obtain⟨X,hX⟩:=ex (zI q);rw[hX] at c hn ⊢;clear hX;obtain⟨ts,c1,c2,c3⟩:=f
 (try dsimp only at *)
 cbv;refine zN (λe=>?_) (λe=>?_);{have e':q<0:=of_decide_eq_true (hn ▸ e);have g:=h1 e';subst g;cbv;refine cA c ?_;cbv;exact rA};{have e':¬q<0:=of_decide_eq_false (hn ▸ e);have g:=h2 e';subst g;cbv;exact rA}
def ND (a b:Dec)(ha:a.x.sz (2^32))(hb:b.x.sz (2^32)):zD 96 [dv a,dv b] (bV (decide (a.k=b.k)&&(decide (a.i=b.i)&&decide (a.x=b.x)))):=by
 refine sF Tryz.f96 ?_;have cs:=s69 a.x b.x ha hb;obtain⟨r,hr⟩:∃ r,(decide (a.k=b.k)&&(decide (a.i=b.i)&&decide (a.x=b.x)))=r:=⟨_,rfl⟩;rw[hr];generalize decide (a.x=b.x)=q at *;obtain⟨k,i,x⟩:=a;obtain⟨k',i',x'⟩:=b;dsimp only at *;cbv;refine zO (λe1=>?_) (λe1=>?_)
 rotate_left
 ·rw[decide_eq_false e1,qF] at hr;cbv
  (refine rC ?_;cbv)
  exact zK hr.symm
 rw[decide_eq_true e1,yL] at hr;cbv;refine zO (λe2=>?_) (λe2=>?_)
 rotate_left
 ·rw[decide_eq_false e2,qF] at hr;cbv
  (refine rC ?_;cbv)
  exact zK hr.symm
 rw[decide_eq_true e2,yL] at hr;cbv;refine cA cs ?_;cbv
 (refine rC ?_;cbv)
 exact zX hr
end Go.Proofs.YtaeaffgjdcigoaaGreat
