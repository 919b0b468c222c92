/- A part of the proof: EvD. -/
import Derived.Test.YtaeaffgjdcigoaaGreatG30
set_option linter.all false
namespace Go.Proofs.YtaeaffgjdcigoaaGreat
open Go
set_option maxRecDepth 100000
set_option maxHeartbeats 4000000
def Rj (x:FReg)(raw:List UInt8){n:Nat}(hx:x.small n)(hn:n<=1000)(hr:raw.length<2^38):zD 27 [rgv x.g,u8v raw] (rlv ((nN raw 0 x.bs).map zG)):=by
 refine sF Tryz.f27 ?_;have hbl:=hx.bs;have facts:∀ i,i<n->∃ (K:Nat) (part lo hi d m y:R),(x.bs.map λb=>zG b.1)[i]?=some lo/\(x.bs.map λb=>zG b.2)[i]?=some hi/\zD 83 [iV K,iV 8] (.tup [rv part,iV 0]) /\
   zD 85 [rv hi,rv lo] (rv d)/\zD 84 [rv part,rv d] (rv m)/\zD 18 [rv lo,rv m] (rv y)/\(((nN raw 0 x.bs).take (i+1)).map zG=((nN raw 0 x.bs).take i).map zG++[y]) /\
   (i<raw.length->∃ w,raw[i]?=some w/\nx .i64 (irem (w.toNat:Int) 9)=(K:Int))/\(¬i<raw.length->K=0):=λi hi=>by
  obtain⟨b,hb⟩:=zO (l:=x.bs) (i:=i) oM;obtain⟨f1,f2⟩:=hx.bf b (zX hb);have hK:=FD raw i;have c1:=s43 (VM raw i:Int) 8 oM oM (by decide) (by decide) (by decide);have c2:=s93 (zG b.2) (zG b.1) ((zT f2).mono (by decide)) ((zT f1).mono (by decide));rw[zV,zV] at c2;have f3:=vC f2 f1;have c3:=s77 (zG (rB (VM raw i:Int) 8)) (zG (b.2-b.1)) ((zT (WA hK)).mono (by decide)) ((zT f3).mono (by decide));rw[zV,zV] at c3;have c4:=s44 (zG b.1) (zG (rB (VM raw i:Int) 8*(b.2-b.1))) ((zT f1).mono (by decide)) ((zT (yY (WA hK) f3)).mono (by decide));rw[zV,zV] at c4;have g:=Jq raw (i:=0) hb;rw[jQ] at g;refine⟨VM raw i,_,_,_,_,_,_,by rw[uY,hb];rfl,by rw[uY,hb];rfl,c1,c2,c3,c4,iK _ g,λh=>?_,λh=>?_⟩;{obtain⟨w,hw⟩:=zO h;refine⟨w,hw,?_⟩;rw[OP];unfold VM;rw[if_pos h,fK,hw];rfl};{unfold VM;rw[if_neg h]}
 have hIl:(nN raw 0 x.bs).length=n:=by rw[WB,hbl]
 obtain⟨W,hW⟩:∃ W:Nat->List R,∀ i,((nN raw 0 x.bs).take i).map zG=W i:=⟨_,λ_=>rfl⟩;have w0:W 0=[]:=by rw[<-hW];rfl
 have wl:∀ i,i<=n->(W i).length=i:=λi h=>by rw[<-hW,y8,kV];omega
 have w9:(nN raw 0 x.bs).map zG=W n:=by rw[<-hW,<-hIl,wW]
 simp only[hW] at facts;rw[w9];have e:rgv x.g=.agg [rlv (x.bs.map λb=>zG b.1),rlv (x.bs.map λb=>zG b.2),alv (x.rows.map fA)]:=rfl;rw[e];have hLl:(x.bs.map λb=>zG b.1).length=n:=by rw[y8,hbl]
 clear hW w9 hx hIl e hbl;generalize x.bs.map (λb=>zG b.1)=LO at *;generalize x.bs.map (λb=>zG b.2)=HI at *;generalize x.rows.map fA=RW at *;cbv;refine zW (σ:=Nat) (λi=>⟨[(1,u8v raw),(2,.ptr 2 0),(5,oV 5 3 ((W i).length)),(6,iV i)],[(2,.box [rlv LO,rlv HI,alv RW]),(5,aV 3 (enc rc (W i)))]⟩)
  (λi=>i<=n) (λi=>n-i) 0 (yU _)
  (.trans (wkZ (ps':=⟨[(1,u8v raw),(2,.ptr 2 0),(5,.nil),(6,iV (((0:Nat):Int)))],[(2,.box [rlv LO,rlv HI,alv RW])]⟩)) (.trans (.adoptT (ps:=⟨[(1,u8v raw),(2,.ptr 2 0),(5,.nil),(6,iV (((0:Nat):Int)))],[(2,.box [rlv LO,rlv HI,alv RW])]⟩) 5 3 5 rfl rfl) (wkY (by cbv;repeat' first|exact trivial|exact lR|exact zB om|exact zZ rfl (by first|rfl|(rw[w0];done)|(simp[zL,zA];done)|(rw[w0];simp[zL,zA];done))|exact zH (by first|rfl|(rw[w0];done)|(rw[w0];rfl)|(rw[<-xZ];rfl)|(rw[w0,<-xZ];rfl))|apply And.intro)))) ?_
 intro i hi';have hwi:=wl i hi';cbv;refine zE (λh=>?_) (λh=>?_)
 ·(have hlt:i<n:=by rw[zA,hLl] at h;exact om);obtain⟨K,part,lo,hi,d,m,y,g1,g2,c1,c2,c3,c4,g3,k1,k2⟩:=facts i hlt
  clear facts wl;generalize W i=Wi at *;cbv;refine gD (σ:=Unit) (λ_=>⟨[(1,u8v raw),(2,.ptr 2 0),(5,oV 5 3 Wi.length),(6,iV i),(7,iV K)],[(2,.box [rlv LO,rlv HI,alv RW]),(5,aV 3 (enc rc Wi))]⟩) (λ_=>True) (λe=>?_) (λe=>?_) (λ_ _=>?_);{obtain⟨w,hw,hk⟩:=k1 (uL e);cbv;refine yB hw mU n6 ?_;cbv;refine⟨vX om,?_⟩;cbv;exact⟨(),trivial,.le (by cbv;exact⟨lR,lR,lR,lR,zB hk,trivial⟩) okZ rfl⟩};{have hk:=k2 (λh=>e (by rw[zA];exact om));subst hk;cbv;exact⟨(),trivial,.le (by cbv;exact⟨lR,lR,lR,lR,zB rfl,trivial⟩) okZ rfl⟩};{clear k1 k2;cbv;refine cA c1 ?_;cbv;refine zM 21 (by cbv) ?_;cbv;refine yB g1 vA uF ?_;cbv;refine yB g2 vA uF ?_;cbv;refine yB g1 vA uF ?_;cbv;refine dA c2 ?_;cbv;refine dA c3 ?_;cbv;refine dA c4 ?_;cbv;refine wU ZL rfl rfl rfl (by simp[zA,zL]) rfl ⟨by simp[zL,xE]⟩ (z5 (by simp[zL,zA] <;> omega) (by simp[zL,zA] at *;exact om)) rfl ?_;cbv;exact⟨zC om om,i+1,(by show i+1<=n;omega),(by show n-(i+1)<n-i;omega),wkY (by cbv;repeat' first|exact trivial|exact lR|exact zB om|exact zZ rfl (by first|rfl|(rw[g3];done)|(simp[zL,zA];done)|(rw[g3];simp[zL,zA];done))|exact zH (by first|rfl|(rw[g3];done)|(rw[g3];rfl)|(rw[<-xZ];rfl)|(rw[g3,<-xZ];rfl))|apply And.intro)⟩}
 have hin:i=n:=by rw[zA,hLl] at h;exact om
 rw[hin];clear hin hwi hi' h facts wl;generalize W n=X' at *;have hT:=p5 rc X';have hfr:=Q3 rc X';cbv;refine cZ _ (.trans (.le (ps':=⟨[(4,oV 5 3 X'.length)],[(5,aV 3 (enc rc X'))]⟩) ?_ ?_ rfl) (.frz 5 rfl rfl ?_ ?_)) rfl ?_;{cbv;exact okA};{cbv;exact⟨zH rfl,trivial⟩}
 ·cbv
  repeat' first|exact trivial|exact⟨hfr⟩|apply And.intro
 ·cbv
  repeat' first|exact trivial|apply And.intro
 cbv;exact zS hT
def inB:List (Rat×Rat)->List Rat->Bool
 |b::bs,q::qs=>(decide (0<=wK q b.1)&&decide (wK q b.2<=0))&&inB bs qs| _,_=>true
def XM (fs:List F) (X:Int->Rat):Bool:=fs.all λf=>decide (0<=z3 (f.at X))
def Y2:∀ {bs:List (Rat×Rat)} {l:List Rat},inB bs l=true->∀ (i:Nat) b q,bs[i]?=some b->l[i]?=some q->0<=wK q b.1/\wK q b.2<=0
 |[],_,_,i,b,q,h,_=>by simp at h| _::_,[],_,i,b,q,_,h=>by simp at h| a::bs,p::l,h,0,b,q,h1,h2=>by simp only[mH,pE] at h1 h2;subst h1 h2;unfold inB at h;simp only[yK,decide_eq_true_eq] at h;exact h.1| a::bs,p::l,h,i+1,b,q,h1,h2=>by simp only[p9] at h1 h2;unfold inB at h;simp only[yK,decide_eq_true_eq] at h;exact Y2 h.2 i b q h1 h2
def Aa:∀ {bs:List (Rat×Rat)} {l:List Rat},(∀ (i:Nat) b q,bs[i]?=some b->l[i]?=some q->0<=wK q b.1/\wK q b.2<=0)->inB bs l=true
 |[],_,_=>by unfold inB;rfl
 |_::_,[],_=>by unfold inB;rfl
 |a::bs,p::l,h=>by unfold inB;simp only[yK,decide_eq_true_eq];exact⟨h 0 a p rfl rfl,Aa λi b q h1 h2=>h (i+1) b q (by simpa using h1) (by simpa using h2)⟩
def Gm (x:FReg) (l:List Rat):Bool:=inB x.bs l&&XM x.rows (xr l)
def Rk (x:FReg)(l:List Rat){n:Nat}(hx:x.small n)(hv:x.g.valid (n:Int)=true)(hz:x.g.sz (2^31))(hw:∀ f,f∈x.rows->f.wf (n:Int))(hl:l.length=n)(hn:n<=3){m:Nat}(hm2:m<=2^10)(hf:∀ q,q∈l->Fits m q):zD 87 [rgv x.g,rlv (l.map zG)] (bV (Gm x l)):=by
 refine sF Tryz.f87 ?_;have co:=Ri x.g hz;have hlo:x.g.lo.length=n:=by show (List.map _ _).length=n;rw[y8];exact hx.bs
 rw[hlo,hv] at co;have hbl:=hx.bs;generalize hres:Gm x l=res;have r0:res=(inB x.bs l&&XM x.rows (xr l)):=hres.symm;have facts:∀ i,i<n->∃ (q lo hi:R) (z1 z2:Int),(l.map zG)[i]?=some q/\(x.bs.map λb=>zG b.1)[i]?=some lo/\(x.bs.map λb=>zG b.2)[i]?=some hi/\zD 48 [rv q,rv lo] (iV z1)/\zD 48 [rv q,rv hi] (iV z2) /\
   (¬(0<=z1/\z2<=0)->res=false)/\((0<=z1/\z2<=0)->∀ b q,x.bs[i]?=some b->l[i]?=some q->0<=wK q b.1/\wK q b.2<=0):=λi hi=>by
  obtain⟨b,hb⟩:=zO (l:=x.bs) (i:=i) oM;obtain⟨q,hq⟩:=zO (l:=l) (i:=i) oM;obtain⟨f1,f2⟩:=hx.bf b (zX hb);have f3:=hf q (zX hq);have c1:=s42 (zG q) (zG b.1) ((zT f3).mono oM) ((zT f1).mono (by decide));have c2:=s42 (zG q) (zG b.2) ((zT f3).mono oM) ((zT f2).mono (by decide));rw[zV,zV] at c1 c2;refine⟨_,_,_,_,_,by rw[uY,hq];rfl,by rw[uY,hb];rfl,by rw[uY,hb];rfl,c1,c2,λh=>?_,λh b' q' hb' hq'=>?_⟩
  ·cases hi':inB x.bs l with
   |false=>rw[r0,hi'];rfl
   |true=>exact absurd (Y2 hi' i b q hb hq) h
  {rw[hb] at hb';rw[hq] at hq';cases hb';cases hq';exact h}
 have n2:=hx.rows;have rf:∀ k,k<x.rows.length->∃ (p:A) (y:R) (s:Int),(x.rows.map fA)[k]?=some p/\zD 88 [av p,rlv (l.map zG)] (.tup [rv y,iV 0])/\zD 30 [rv y] (iV s)/\(s<0->res=false)/\(¬s<0->∀ f,x.rows[k]?=some f->0<=z3 (f.at (xr l))):=λk hk=>by
  obtain⟨f,hfk⟩:=zO hk;have hmem:=zX hfk;have hwf:=hw f hmem;rw[<-hl] at hwf;have hfl:f.fl 19 3:=(hx.rf f hmem).mono oM hn;have ce:=GY f l hfl hwf hf (by decide) oM oM (by decide) oM;have cs:=s35 (zG (f.at (xr l))) (by have:=(zT (ZB hfl (VU hwf hf))).n;omega);rw[zV] at cs;refine⟨fA f,_,_,by rw[uY,hfk];rfl,ce,cs,λh=>?_,λh f' hf'=>?_⟩
  ·rw[r0];have:XM x.rows (xr l)=false:=by
    cases hr:XM x.rows (xr l) with
    |false=>rfl| true =>
     unfold XM at hr;have:=of_decide_eq_true (gG.1 hr f hmem);omega
   rw[this,Bool.and_false]
  {rw[hfk] at hf';cases hf';omega}
 have rt:(∀ i,i<n->∀ b q,x.bs[i]?=some b->l[i]?=some q->0<=wK q b.1/\wK q b.2<=0)->(∀ k,k<x.rows.length->∀ f,x.rows[k]?=some f->0<=z3 (f.at (xr l)))->res=true:=λh1 h2=>by rw[r0,Aa λi b q hb hq=>h1 i (by have:=(xP.1 hb).1;omega) b q hb hq];unfold XM;rw[yN,gG];intro f hf';obtain⟨k,hk⟩:=rK hf';exact decide_eq_true (h2 k (xP.1 hk).1 f hk)
 have e:rgv x.g=.agg [rlv (x.bs.map λb=>zG b.1),rlv (x.bs.map λb=>zG b.2),alv (x.rows.map fA)]:=rfl;rw[e] at co ⊢;have hLl:(x.bs.map λb=>zG b.1).length=n:=by rw[y8,hbl]
 have hRl:(x.rows.map fA).length=x.rows.length:=y8 ..;have hXl:(l.map zG).length=n:=by rw[y8,hl]
 obtain⟨P1,hP1⟩:∃ P:Nat->Prop,∀ i,P i=∀ b q,x.bs[i]?=some b->l[i]?=some q->0<=wK q b.1/\wK q b.2<=0:=⟨_,λ_=>rfl⟩;obtain⟨P2,hP2⟩:∃ P:Nat->Prop,∀ k,P k=∀ f,x.rows[k]?=some f->0<=z3 (f.at (xr l)):=⟨_,λ_=>rfl⟩;simp only[<-hP1] at facts rt;simp only[<-hP2] at rf rt;clear hx hv hz hw hf e hP1 hP2 r0 hres hlo hbl;generalize x.bs.map (λb=>zG b.1)=LO at *;generalize x.bs.map (λb=>zG b.2)=HI at *;generalize x.rows.map fA=RW at *;generalize x.rows.length=M at *;generalize l.map zG=X at *;cbv;refine cA co ?_;cbv;refine rR rfl ?_;cbv;refine zE (λe=>?_) (λe=>(e (by rw[zA,zA];exact om)).elim);cbv;refine zW (σ:=Nat) (λi=>⟨[(1,rlv X),(2,.ptr 2 0),(5,iV i)],[(2,.box [rlv LO,rlv HI,alv RW])]⟩)
  (λi=>i<=n/\∀ j,j<i->P1 j) (λi=>n-i) 0 ⟨yU _,λj h=>absurd h oM⟩ (wkZ) ?_
 intro i hi';obtain⟨hi1,hi2⟩:=hi';cbv;refine zE (λh=>?_) (λh=>?_)
 ·(have hlt:i<n:=by rw[zA,hXl] at h;exact om);obtain⟨q,lo,hi,z1,z2,g1,g2,g3,c1,c2,k1,k2⟩:=facts i hlt
  clear facts rf rt;cbv;refine zM 24 (by cbv) ?_;cbv;refine yB g1 vA uF ?_;cbv;refine yB g2 vA uF ?_;cbv;refine dA c1 ?_;cbv;refine zQ (λe1=>?_) (λe1=>?_)
  ·have hr:=k1 (λh=>by omega);cbv
   (refine rC ?_;cbv)
   exact zK hr
  cbv;refine yB g1 vA uF ?_;cbv;refine yB g3 vA uF ?_;cbv;refine dA c2 ?_;cbv;refine zE (λe2=>?_) (λe2=>?_)
  ·have hr:=k1 (λh=>by omega);cbv
   (refine rC ?_;cbv)
   exact zK hr
  have hp:=k2 ⟨by omega,by omega⟩;cbv;exact⟨zC om om,i+1,⟨(by show i+1<=n;omega),λj hj=>by
   by_cases e:j=i;{rw[e];exact hp}
   ·exact hi2 j (by have:j<i+1:=hj;omega)⟩,(by show n-(i+1)<n-i;omega),wkZ⟩
 have hin:i=n:=by rw[zA,hXl] at h;exact om
 rw[hin] at hi2;clear hin hi1 h facts;cbv;refine zW (σ:=Nat) (λk=>⟨[(1,rlv X),(2,.ptr 2 0),(6,iV k)],[(2,.box [rlv LO,rlv HI,alv RW])]⟩)
  (λk=>k<=M/\∀ j,j<k->P2 j) (λk=>M-k) 0 ⟨yU _,λj h=>absurd h oM⟩ (wkZ) ?_
 intro k hk';obtain⟨hk1,hk2⟩:=hk';cbv;refine zE (λh=>?_) (λh=>?_)
 ·(have hlt:k<M:=by rw[zA,hRl] at h;exact om);obtain⟨p,y,s,g1,c1,c2,k1,k2⟩:=rf k hlt
  clear rf rt;cbv;refine yB g1 qS j6 ?_;cbv;refine cA c1 ?_;cbv;refine cA c2 ?_;cbv;refine zE (λe1=>?_) (λe1=>?_)
  ·have hr:=k1 e1;cbv
   (refine rC ?_;cbv)
   exact zK hr
  have hp:=k2 e1;cbv;exact⟨zC om om,k+1,⟨(by show k+1<=M;omega),λj hj=>by
   by_cases e:j=k;{rw[e];exact hp}
   ·exact hk2 j (by have:j<k+1:=hj;omega)⟩,(by show M-(k+1)<M-k;omega),wkZ⟩
 have hkn:k=M:=by rw[zA,hRl] at h;exact om
 rw[hkn] at hk2;have hr:=rt hi2 hk2;cbv
 (refine rC ?_;cbv)
 exact yH hr
end Go.Proofs.YtaeaffgjdcigoaaGreat
