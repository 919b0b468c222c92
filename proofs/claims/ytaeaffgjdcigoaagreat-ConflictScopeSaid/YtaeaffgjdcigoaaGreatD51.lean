/- A part of the proof: KuA. -/
import Derived.Test.YtaeaffgjdcigoaaGreatD39
import Derived.Test.YtaeaffgjdcigoaaGreatD42
set_option linter.all false
namespace Go.Proofs.YtaeaffgjdcigoaaGreat
open Go
set_option maxRecDepth 100000
set_option maxHeartbeats 8000000
def Na (a:List Dec)(hl:a.length<2^38)(ha:∀ m,m∈a->m.x.sz (2^32)):zD 35 [dlv a,dlv a] (bV true):=by
 refine sF Tryz.f35 ?_;cbv;refine zE (λ_=>?_) (λe=>absurd rfl e);cbv;refine zW (σ:=Nat) (λi=>⟨[(0,dlv a),(1,dlv a),(5,iV i)],[]⟩) (λi=>i<=a.length) (λi=>a.length-i) 0 (yY _) (wkZ) ?_;intro i hi;cbv;refine zE (λh5=>?_) (λh5=>?_)
 ·(have hlt:=vL h5;obtain⟨x,hx⟩:=zQ hlt;have hv:=ha x (z8 hx);have c1:zD 96 [dv x,dv x] (bV true):=by simpa using ND x x hv hv);cbv
  refine zL 8 (by cbv) ?_;cbv;refine yE hx vN qE ?_;cbv;refine yE hx vN qE ?_;cbv;refine cA c1 ?_;cbv;refine fL rfl ?_;cbv;exact⟨zC om om,i+1,om,om,wkZ⟩
 {cbv;exact rA}
def Tk (q:Qry)(r:Rsn)(hc:r.cl.length<2^30):zD 33 [qv q,rsv r] (sv (lV q r)):=by
 refine sF Tryz.f33 ?_;have c1:=λl:y5=>Tz l;have c2:=λl:y5=>NF l;have hS:lV q r=⟨q,r.cl.map dY,r.lems⟩:=rfl;obtain⟨S9,hS9⟩:=ex (lV q r);rw[hS9] at hS ⊢;clear hS9;obtain⟨cl,lems,em,pf⟩:=r;obtain⟨⟨n,us,os⟩,⟨lo,hi',rows⟩,⟨ts,c⟩⟩:=q;dsimp only at *;subst hS;dsimp only [sv] at *;cbv;refine zW (σ:=Nat) (λi=>⟨[(3,.ptr 3 0),(4,.ptr 4 0),(5,.ptr 5 0),(6,iV i)],[(3,.box [qR cl,llv lems,bV em,mlv pf]),(4,.box [iV 0,.nil,.nil,.nil,.nil,.nil,.nil,.ff,.nil,.nil,.nil,.nil]),(5,.box [iV n,alv us,alv os,rlv lo,rlv hi',alv rows,tsv ts,bV c.neg,nat c.num,nat c.den,oV 25 5 i,llv lems]),(25,aV 5 (enc dc ((cl.take i).map dY)))]⟩)
  (λi=>i<=cl.length) (λi=>cl.length-i) 0 (yY _)
  (.trans (wkZ (ps':=⟨[(3,.ptr 3 0),(4,.ptr 4 0),(5,.ptr 5 0),(6,iV (((0:Nat):Int)))],[(3,.box [qR cl,llv lems,bV em,mlv pf]),(4,.box [iV 0,.nil,.nil,.nil,.nil,.nil,.nil,.ff,.nil,.nil,.nil,.nil]),(5,.box [iV n,alv us,alv os,rlv lo,rlv hi',alv rows,tsv ts,bV c.neg,nat c.num,nat c.den,.nil,llv lems])]⟩))
   (.trans (.adoptB (ps:=⟨[(3,.ptr 3 0),(4,.ptr 4 0),(5,.ptr 5 0),(6,iV (((0:Nat):Int)))],[(3,.box [qR cl,llv lems,bV em,mlv pf]),(4,.box [iV 0,.nil,.nil,.nil,.nil,.nil,.nil,.ff,.nil,.nil,.nil,.nil]),(5,.box [iV n,alv us,alv os,rlv lo,rlv hi',alv rows,tsv ts,bV c.neg,nat c.num,nat c.den,.nil,llv lems])]⟩) (cs:=[iV n,alv us,alv os,rlv lo,rlv hi',alv rows,tsv ts,bV c.neg,nat c.num,nat c.den,.nil,llv lems]) 25 5 5 10 rfl rfl rfl) (wkZ))) ?_
 intro i hi;cbv;refine zE (λh=>?_) (λh=>?_)
 ·(have hlt:=vL h;obtain⟨x,hx⟩:=zQ hlt;have hen:enc dc ((cl.take (i+1)).map dY)=enc dc ((cl.take i).map dY)++zS [dc (dY x)]:=by rw[tN,hx];simp[enc,zS]);have hln:(enc dc ((cl.take i).map dY)).length=i:=by rw[zA,wH,dM];omega
  have d1:=c1 x;have d2:zD 92 [ltv (x.1,!x.2)] (dv (dY x)):=c2 (x.1,!x.2);generalize dY x=d at *;clear c1 c2;cbv;refine zL 10 (by cbv) ?_;cbv;refine yE hx x5 wT ?_;cbv;refine dA d1 ?_;cbv;refine dA d2 ?_;cbv;refine vM lO rfl rfl rfl (by rw[hln]) rfl ⟨by simp[zS,xD]⟩ (z6 oM (by rw[hln];simp[zS];exact om)) rfl ?_;cbv;exact⟨zC om om,i+1,(show i+1<=cl.length by omega),(show cl.length-(i+1)<cl.length-i by omega),.le okZ (by cbv;repeat' first|exact trivial|exact lR|exact z4 rfl (by rw[hln];simp[zS])|exact zG (by rw[hen];rfl)|apply And.intro) rfl⟩
 ·(have hi2:i=cl.length:=qD h hi;have hT:((enc dc ((cl.take i).map dY)).drop 0).take i=enc dc (cl.map dY):=by rw[hi2,vP,wN,yW (by rw[zA,wH];omega)]);have hfr:0+i<=(enc dc ((cl.take i).map dY)).length:=by rw[zA,wH,dM];omega
  cbv;refine aI _ (.frz 25 rfl rfl (by cbv;repeat' first|exact trivial|exact z5 hfr|apply And.intro) (by cbv;repeat' first|exact trivial|exact z5 hfr|apply And.intro)) rfl ?_;cbv;exact⟨lR,lR,lR,lR,lR,lR,lR,lR,lR,lR,zR hT,lR,trivial⟩
def smM (m:Mult):Bool:=decide (m.c.num.length<=4)&&decide (m.c.den.length<=4)
def smL (m:Lem):Bool:=decide (m.v.num.length<=4)&&(decide (m.v.den.length<=4)&&(decide (m.pf.length<=30)&&m.pf.all smM))
def KL {α:Type}{P:α->Bool}{l:List α}{i:Nat}{a:α}(h:l[i]?=some a):(l.drop i).all P=(P a&&(l.drop (i+1)).all P):=by rw[zT h];rfl
def Nb (L:List Lem)(h1:L.length<=9223372036854775807):zD 31 [llv L] (bV (L.all smL&&decide (L.length<=20))):=by
 refine sF Tryz.f31 ?_;obtain⟨r,hr⟩:∃ r,(L.all smL&&decide (L.length<=20))=r:=⟨_,rfl⟩;rw[hr];cbv;refine zW (σ:=Nat) (λi=>⟨[(0,llv L),(3,iV i)],[]⟩) (λi=>i<=L.length/\((L.drop i).all smL&&decide (L.length<=20))=r) (λi=>L.length-i) 0 ⟨yY _,hr⟩ (wkZ) ?_;intro i hi;obtain⟨hi,hr⟩:=hi;cbv;refine zE (λh=>?_) (λh=>?_)
 ·have hlt:=vL h;obtain⟨m,hm⟩:=zQ hlt;rw[KL hm] at hr;have hu:smL m=(decide (m.v.num.length<=4)&&(decide (m.v.den.length<=4)&&(decide (m.pf.length<=30)&&m.pf.all smM))):=rfl;generalize smL m=b at *;cbv;refine yE hm yR y4 ?_;cbv;refine zO (λe1=>?_) (λe1=>?_)
  ·cbv
   (refine rC ?_;cbv)
   exact zK (by rw[<-hr,hu,decide_eq_false (by simp only[zH] at e1;exact om)];rfl)
  rw[decide_eq_true (by simp only[zH] at e1;exact om),yL] at hu;cbv;refine yE hm yR y4 ?_;cbv;refine zO (λe2=>?_) (λe2=>?_)
  ·cbv
   (refine rC ?_;cbv)
   exact zK (by rw[<-hr,hu,decide_eq_false (by simp only[zH] at e2;exact om)];rfl)
  rw[decide_eq_true (by simp only[zH] at e2;exact om),yL] at hu;cbv;refine yE hm yR y4 ?_;cbv;refine zE (λe3=>?_) (λe3=>?_)
  ·cbv
   (refine rC ?_;cbv)
   exact zK (by rw[<-hr,hu,decide_eq_false (by rw[zA] at e3;exact om)];rfl)
  (have h30:m.pf.length<=30:=by rw[zA] at e3;exact om);rw[decide_eq_true h30,yL] at hu
  cbv;refine zW (σ:=Nat) (λj=>⟨[(0,llv L),(3,iV i),(4,iV j)],[]⟩) (λj=>j<=m.pf.length/\(m.pf.drop j).all smM=b) (λj=>m.pf.length-j) 0 ⟨yY _,hu.symm⟩ (wkZ) ?_;intro j hj;obtain⟨hj,hb⟩:=hj;cbv;refine yE hm yR y4 ?_;cbv;refine zE (λg=>?_) (λg=>?_)
  ·have hlt2:=vL g;obtain⟨y,hy⟩:=zQ hlt2;rw[KL hy] at hb;have hv:smM y=(decide (y.c.num.length<=4)&&decide (y.c.den.length<=4)):=rfl;generalize smM y=b2 at *;cbv;refine yE hm yR y4 ?_;cbv;refine yE hy wM xI ?_;cbv;refine zO (λe4=>?_) (λe4=>?_)
   ·cbv
    (refine rC ?_;cbv)
    exact zK (by rw[<-hr,<-hb,hv,decide_eq_false (by simp only[zH] at e4;exact om)];rfl)
   rw[decide_eq_true (by simp only[zH] at e4;exact om),yL] at hv;cbv;refine yE hm yR y4 ?_;cbv;refine yE hy wM xI ?_;cbv;refine zE (λe5=>?_) (λe5=>?_)
   ·cbv
    (refine rC ?_;cbv)
    exact zK (by rw[<-hr,<-hb,hv,decide_eq_false (by simp only[zH] at e5;exact om)];rfl)
   rw[decide_eq_true (by simp only[zH] at e5;exact om)] at hv;rw[hv,yL] at hb;cbv;exact⟨zC om om,j+1,⟨(show j+1<=m.pf.length by omega),hb⟩,(show m.pf.length-(j+1)<m.pf.length-j by omega),wkZ⟩
  {have hj2:j=m.pf.length:=qD g hj;rw[hj2,x8] at hb;rw[<-hb] at hr;cbv;exact⟨zC om om,i+1,⟨(show i+1<=L.length by omega),hr⟩,(show L.length-(i+1)<L.length-i by omega),wkZ⟩}
 ·have hi2:i=L.length:=qD h hi;rw[hi2,x8] at hr;cbv
  (refine rC ?_;cbv)
  exact zX (by rw[<-hr,zA,List.all_nil,yL,decide_eq_decide];exact om)
end Go.Proofs.YtaeaffgjdcigoaaGreat
