/- A part of the proof: KcH, KcJ, KcK. -/
import Derived.Test.YtaeaffgjdcigoaaGreatD33
set_option linter.all false
namespace Go.Proofs.YtaeaffgjdcigoaaGreat
open Go
set_option maxRecDepth 100000
set_option maxHeartbeats 8000000
def Sr {s:Scp}(hs:Lsz (2^20) s.lems){j:Int}(h:(s.best j).1≠0):Fits (2^20) (s.vLo j):=by obtain⟨m,hm,e⟩:=Ze h;rw[e];exact (hs.sz m (z8 hm)).fits (by decide)
def Ss {s:Scp}(hs:Lsz (2^20) s.lems){j:Int}(h:(s.best j).2≠0):Fits (2^20) (s.vHi j):=by obtain⟨m,hm,e⟩:=YA h;rw[e];exact (hs.sz m (z8 hm)).fits (by decide)
def Ah {s:Scp}(hs:Lsz (2^20) s.lems){p:F}{c:Rat}{j:Int}{k n:Nat}(hc:Fits k c)(hp:Cn p.ts)(hf:p.fl (2^20) n){y:Row×F×Rat}(h:s.repl p c j=some y):Cn y.2.1.ts/\y.2.1.fl (2^24) n/\Fits (k+2^22) y.2.2:=by
 have ha:=jJ hc;have z:Cn F.zero.ts/\F.zero.fl (2^24) n:=⟨Cn.nil,zero_fl.mono (by decide) (yY _)⟩;have q:Cn p.ts/\p.fl (2^24) n:=⟨hp,hf.mono (by decide) (yC _)⟩;have a:Fits (k+2^22) (vG c):=ha.mono oM;unfold Scp.repl at h;split at h;{grind};split at h;{grind};split at h;{grind};split at h;{cases h}
 ·rename_i hb;have f1:=Sr hs (j:=j) (λe=>hb (.inl e));have f2:=Ss hs (j:=j) (λe=>hb (.inr e));have fd:=cC (vR f2 f1);cases h;refine⟨(Cn.nil.mrg hp).mrg Cn.nil,?_,?_⟩
  ·(have e1:Fits (2^20+(2^20+2^20+1)) (s.vHi j/(s.vHi j-s.vLo j)):=by rw[sJ];exact y7 f2 fd);have e2:Fits (2^20+2^20+(2^20+2^20+1)) (-(s.vLo j*s.vHi j)/(s.vHi j-s.vLo j)):=by rw[sJ];exact y7 (uW (y7 f1 f2)) fd
   have e3:(F.num (-(s.vLo j*s.vHi j)/(s.vHi j-s.vLo j))).fl (2^20+2^20+(2^20+2^20+1)) 0:=⟨λt ht=>absurd ht (by simp[F.num]),e2,yC _⟩;exact ((hf.scale e1).add e3).mono (by decide) oM
  {show Fits _ (vG c/(s.vHi j-s.vLo j));rw[sJ];exact (y7 ha fd).mono oM}
def Nd (s:Scp)(j:Nat)(pa:A)(f:F)(l:List (Row×Rat)){k n:Nat}(hs:Usz s)(hp:s.q.g.us[j]?=some pa)(hpc:fA pa.f=pa)(hpn:Cn pa.f.ts)(hpf:pa.f.fl (2^20) n)(hn:n<=2^33) (hc:Cn f.ts) (hf:f.fl k n) (h1:1<=k) (hk:k<=2^24) (hl:Mfit (2^30) l):zD 174 [sv s,fv f,mlv (mR l),iV j] (.tup [fv ((s.rep1 pa.f j (f,l)).getD (F.zero,[])).1,mlv (mR ((s.rep1 pa.f j (f,l)).getD (F.zero,[])).2),bV ((s.rep1 pa.f j (f,l)).isSome)]):=by
 refine sF Tryz.f174 ?_;obtain⟨v1,v2,v3,v4,v5⟩:=mV hs.v;obtain⟨v,hv⟩:∃ v:Int,s.q.g.n+j=v:=⟨_,rfl⟩;have hjl:j<1024:=by grind
 have hfc:=U4 hc hf.t h1 v;have ck:=TN f v hc (by have:=hf.len;omega);have csg:=s35 (zI (co f.ts v)) (xL (zU hfc).n oM);rw[z9] at csg;have cb:=dW s j hs.l;have con:=TL s j hs;have cof:=A8 s j hs;have hll:=hs.l.len;have hss:=hs.l.sz;have hsl:=hs.l;have hrz:=λy h=>Ah (s:=s) (y:=y) hs.l (c:=co f.ts v) (j:=j) hfc hpn hpf h;have hv1:=λh=>Ze (s:=s) (j:=j) h;have hv2:=λh=>YA (s:=s) (j:=j) h;have coff:(s.offR j).2=false->0<(s.best j).2->0<yB (s.vHi j):=λh h'=>by unfold Scp.offR at h;grind
 have conn:(s.onR j).2=false->0<(s.best j).1->yB (s.vLo j)<0:=λh h'=>by unfold Scp.onR at h;grind
 have hR:s.rep1 pa.f j (f,l)=if yB (co f.ts v)=0 then some (f,l) else match s.repl pa.f (co f.ts v) j with
  |none=>none| some y=>some (f.subst v y.2.1,plMq l y.1 y.2.2):=by rw[<-hv];rfl
 have csu:∀ y,s.repl pa.f (co f.ts v) j=some y->zD 210 [fv f,iV v,fv y.2.1] (fv (f.subst v y.2.1))/\zD 112 [mlv (mR l),rwv y.1,rv (zI y.2.2)] (mlv (mR (plMq l y.1 y.2.2))):=λy h=>by obtain⟨e1,e2,e3⟩:=hrz y h;have:=Rt l y.1 (zI y.2.2) hl ((zU e3).mono oM);rw[z9] at this;exact⟨NJ f y.2.1 v hc e1 hf e2 h1 oM oM oM,this⟩
 have hrp:s.repl pa.f (co f.ts v) j=if (s.onR j).2=true then some ((if 0<yB (co f.ts v) then ⟨6,j,0,0⟩ else (s.onR j).1),pa.f,vG (co f.ts v))
  else if (s.offR j).2=true then some ((if yB (co f.ts v)<0 then (s.offR j).1 else ⟨5,j,0,0⟩),F.zero,vG (co f.ts v))
  else if 0<yB (co f.ts v) then
   (if 0<(s.best j).1/\0<(s.best j).2/\aD (s.vLo j) (s.vHi j)=true then some (⟨6,j,0,0⟩,pa.f,vG (co f.ts v)) else some (⟨5,j,0,0⟩,F.zero,vG (co f.ts v)))
  else if (s.best j).1=0\/(s.best j).2=0 then none
  else some (⟨13,j,(s.best j).1,(s.best j).2⟩,(pa.f.scale (s.vHi j/(s.vHi j-s.vLo j))).add (F.num (-(s.vLo j*s.vHi j)/(s.vHi j-s.vLo j))),vG (co f.ts v)/(s.vHi j-s.vLo j)):=rfl
 have hAC:=aN (co f.ts v);have fAC:=jJ hfc;obtain⟨RR,hRe⟩:=ex (s.rep1 pa.f j (f,l));rw[hRe] at hR ⊢;obtain⟨FV,hFV⟩:=ex (fA (RR.getD (F.zero,[])).1);obtain⟨ML,hML⟩:=ex (mR (RR.getD (F.zero,[])).2);obtain⟨RB,hRB⟩:=ex RR.isSome;simp only[fv] at *;rw[hFV,hML,hRB];generalize s.repl pa.f (co f.ts v) j=rp at *;generalize vG (co f.ts v)=AC at *;obtain⟨C,hC⟩:=ex (zI (co f.ts v));rw[hC] at ck csg hAC;generalize s.onR j=on at *;generalize s.offR j=off at *;generalize s.best j=B at *;generalize s.vLo j=lo at *;generalize s.vHi j=hi at *;obtain⟨ron,bon⟩:=on;obtain⟨rof,bof⟩:=off;obtain⟨b1,b2⟩:=B;dsimp only at *;generalize hsg:yB (co f.ts v)=sg at *;have k0:sg=0->FV=fA f/\ML=mR l/\RB=true:=λh=>by rw[<-hFV,<-hML,<-hRB,hR,if_pos h];exact⟨rfl,rfl,rfl⟩
 have k1:sg≠0->rp=none->FV=⟨[],R0⟩/\ML=[]/\RB=false:=λh h'=>by rw[<-hFV,<-hML,<-hRB,hR,if_neg h,h'];exact⟨uK,rfl,rfl⟩
 have k2:sg≠0->∀ y,rp=some y->FV=fA (f.subst v y.2.1)/\ML=mR (plMq l y.1 y.2.2)/\RB=true:=λh y h'=>by rw[<-hFV,<-hML,<-hRB,hR,if_neg h,h'];exact⟨rfl,rfl,rfl⟩
 have a1:bon=true->rp=some ((if 0<sg then ⟨6,j,0,0⟩ else ron),pa.f,AC):=λh=>by rw[hrp,if_pos h]
 have a2:bon=false->bof=true->rp=some ((if sg<0 then rof else ⟨5,j,0,0⟩),F.zero,AC):=λh h'=>by rw[hrp,if_neg (by rw[h];decide),if_pos h']
 have a3:bon=false->bof=false->0<sg->(0<b1/\0<b2/\aD lo hi=true)->rp=some (⟨6,j,0,0⟩,pa.f,AC):=λh h' g g'=>by rw[hrp,if_neg (by rw[h];decide),if_neg (by rw[h'];decide),if_pos g,if_pos g']
 have a4:bon=false->bof=false->0<sg->¬(0<b1/\0<b2/\aD lo hi=true)->rp=some (⟨5,j,0,0⟩,F.zero,AC):=λh h' g g'=>by rw[hrp,if_neg (by rw[h];decide),if_neg (by rw[h'];decide),if_pos g,if_neg g']
 have a5:bon=false->bof=false->¬0<sg->(b1=0\/b2=0)->rp=none:=λh h' g g'=>by rw[hrp,if_neg (by rw[h];decide),if_neg (by rw[h'];decide),if_neg g,if_pos g']
 have a6:bon=false->bof=false->¬0<sg->¬(b1=0\/b2=0)->rp=some (⟨13,j,b1,b2⟩,(pa.f.scale (hi/(hi-lo))).add (F.num (-(lo*hi)/(hi-lo))),AC/(hi-lo)):=λh h' g g'=>by rw[hrp,if_neg (by rw[h];decide),if_neg (by rw[h'];decide),if_neg g,if_neg g']
 obtain⟨FA,hFA⟩:=ex (fA f);simp only[hFA] at ck csu k0;obtain⟨ML0,hML0⟩:=ex (mR l);simp only[hML0] at csu k0;rw[hFA,hML0];have z0:=uK;obtain⟨⟨⟨gn,us,os⟩,⟨lo',hi'',rows⟩,⟨ts,c1',c2',c3'⟩⟩,path,L⟩:=s;dsimp only at *;clear hR hRe hFV hML hRB hrp hsg hC hs hc hf hl hrz hFA hML0 hfc hsl;cbv;refine⟨zC om om,?_⟩;cbv;refine yE hp jI dN ?_;cbv;refine yP rfl (by repeat' first|exact trivial|exact lR|exact zB hv|apply And.intro) ck rfl ?_;cbv;refine cA csg ?_;cbv;refine zE (λe0=>?_) (λe0=>?_);{obtain⟨q1,q2,q3⟩:=k0 e0;subst q1 q2 q3;cbv;exact rA};cbv;refine cA cb ?_;cbv;refine cA con ?_;cbv;refine cA cof ?_;cbv;refine nR (σ:=Row×F×Rat×R×A) (λy=>⟨[(2,mlv ML0),(5,.ptr 5 0),(8,.ptr 8 0),(11,iV v),(15,.ptr 15 0),(22,.ptr 22 0),(23,.ptr 23 0)],
   [(5,.box [tsv FA.ts,bV FA.c.neg,nat FA.c.num,nat FA.c.den]),(8,.box [.nil,.ff,.nil,.nil]),(15,.box [bV y.2.2.2.1.neg,nat y.2.2.2.1.num,nat y.2.2.2.1.den]),(22,.box (rwc y.1)),(23,.box [tsv y.2.2.2.2.ts,bV y.2.2.2.2.c.neg,nat y.2.2.2.2.c.num,nat y.2.2.2.2.c.den])]⟩)
  (λy=>rp=some (y.1,y.2.1,y.2.2.1)/\y.2.2.2.1=zI y.2.2.1/\y.2.2.2.2=fA y.2.1) (λe=>?_) (λe=>?_) (λy hy=>?_)
 {have g:=a1 e;cbv;refine w5 3 [(2,22)] (by cbv) (by cbv) (by cbv) ?_;cbv;refine zE (λe1=>?_) (λe1=>?_);{rw[if_pos e1] at g;cbv;exact⟨(⟨6,j,0,0⟩,pa.f,AC,⟨false,C.num,C.den⟩,pa),⟨g,hAC,hpc.symm⟩,wkY (by cbv;repeat' first|exact trivial|exact lR|exact zB hv|exact zK rfl|exact yQ rfl|apply And.intro)⟩};{rw[if_neg e1] at g;cbv;exact⟨(ron,pa.f,AC,⟨false,C.num,C.den⟩,pa),⟨g,hAC,hpc.symm⟩,wkY (by cbv;repeat' first|exact trivial|exact lR|exact zB hv|exact zK rfl|exact yQ rfl|apply And.intro)⟩}}
 ·cbv;refine zN (λe2=>?_) (λe2=>?_);{have g:=a2 e e2;cbv;refine zE (λe1=>?_) (λe1=>?_);{rw[if_pos e1] at g;cbv;exact⟨(rof,F.zero,AC,⟨false,C.num,C.den⟩,⟨[],R0⟩),⟨g,hAC,z0.symm⟩,wkY (by cbv;repeat' first|exact trivial|exact lR|exact zB hv|exact zK rfl|exact yQ rfl|apply And.intro)⟩};{rw[if_neg e1] at g;cbv;exact⟨(⟨5,j,0,0⟩,F.zero,AC,⟨false,C.num,C.den⟩,⟨[],R0⟩),⟨g,hAC,z0.symm⟩,wkY (by cbv;repeat' first|exact trivial|exact lR|exact zB hv|exact zK rfl|exact yQ rfl|apply And.intro)⟩}};cbv;refine zE (λe3=>?_) (λe3=>?_)
  ·cbv;refine zL 21 (by cbv) ?_;cbv;refine zO (λx1=>?_) (λx1=>?_)
   rotate_left
   {have g:=a4 e e2 e3 (λh=>x1 (by exact om));cbv;exact⟨(⟨5,j,0,0⟩,F.zero,AC,⟨false,C.num,C.den⟩,⟨[],R0⟩),⟨g,hAC,z0.symm⟩,wkY (by cbv;repeat' first|exact trivial|exact lR|exact zB hv|exact zK rfl|exact yQ rfl|apply And.intro)⟩};cbv;refine zO (λx2=>?_) (λx2=>?_)
   rotate_left
   {have g:=a4 e e2 e3 (λh=>x2 (by exact om));cbv;exact⟨(⟨5,j,0,0⟩,F.zero,AC,⟨false,C.num,C.den⟩,⟨[],R0⟩),⟨g,hAC,z0.symm⟩,wkY (by cbv;repeat' first|exact trivial|exact lR|exact zB hv|exact zK rfl|exact yQ rfl|apply And.intro)⟩};obtain⟨m1,g1,hx⟩:=hv1 (by exact om);obtain⟨m2,g2,hy⟩:=hv2 (by exact om);have z1:=hss m1 (z8 g1);have z2:=hss m2 (z8 g2);have l1:=(vV.1 g1).1;have l2:=(vV.1 g2).1;have csl:=TJ m1.v m2.v (z1.mono (by decide)) (z2.mono (by decide));rw[<-hx,<-hy] at csl;generalize aD lo hi=sb at *;clear hx hy hv1 hv2;cbv;refine⟨zC om om,xG g1 (by exact om) yR y4 ?_⟩;cbv;refine⟨zC om om,xG g2 (by exact om) yR y4 ?_⟩;cbv;refine cA csl ?_;cbv;refine zE (λx3=>?_) (λx3=>?_)
   ·have x3':sb=true:=by
     cases sb with
     |true=>rfl| false=>exact absurd x3 (by decide)
    have g:=a3 e e2 e3 ⟨by exact om,by exact om,x3'⟩;cbv;refine w5 4 [(3,22)] (by cbv) (by cbv) (by cbv) ?_;cbv;exact⟨(⟨6,j,0,0⟩,pa.f,AC,⟨false,C.num,C.den⟩,pa),⟨g,hAC,hpc.symm⟩,wkY (by cbv;repeat' first|exact trivial|exact lR|exact zB hv|exact zK rfl|exact yQ rfl|apply And.intro)⟩
   {have g:=a4 e e2 e3 (λh=>x3 (by rw[if_pos h.2.2]));cbv;exact⟨(⟨5,j,0,0⟩,F.zero,AC,⟨false,C.num,C.den⟩,⟨[],R0⟩),⟨g,hAC,z0.symm⟩,wkY (by cbv;repeat' first|exact trivial|exact lR|exact zB hv|exact zK rfl|exact yQ rfl|apply And.intro)⟩}
  ·cbv;refine zO (λx1=>?_) (λx1=>?_);{obtain⟨q1,q2,q3⟩:=k1 e0 (a5 e e2 e3 (.inl (by exact om)));subst q1 q2 q3;cbv;exact rA};cbv;refine zE (λx2=>?_) (λx2=>?_);{obtain⟨q1,q2,q3⟩:=k1 e0 (a5 e e2 e3 (.inr (by exact om)));subst q1 q2 q3;cbv;exact rA}
   (have y1:b1≠0:=by exact om);have y2:b2≠0:=by exact om
   (have g:=a6 e e2 e3 (λh=>h.elim y1 y2);obtain⟨m1,g1,hx⟩:=hv1 y1;obtain⟨m2,g2,hy⟩:=hv2 y2;have z1:=hss m1 (z8 g1);have z2:=hss m2 (z8 g2);have l1:=(vV.1 g1).1;have l2:=(vV.1 g2).1;have hu:lM lo hi=true:=by unfold lM;rw[decide_eq_true (conn e oM),decide_eq_true (coff e2 oM)];rfl);obtain⟨hne,_,_⟩:=iX hu
   (have f1:=z1.fits (by decide);have f2:=z2.fits (by decide);have csb:=s93 m2.v m1.v (z2.mono (by decide)) (z1.mono (by decide));have cln:=NK m1.v m2.v (z1.mono (by decide)) (z2.mono (by decide)) (by rw[<-hx,<-hy];exact hu);rw[<-hx,<-hy] at csb cln;rw[<-hx] at f1;rw[<-hy] at f2;have fd:=vR f2 f1;have w1:Fits (2^23) (hi/(hi-lo)):=by rw[sJ];exact (y7 f2 (cC fd)).mono (by decide));have w2:Fits (2^23) (-(lo*hi)/(hi-lo)):=by rw[sJ];exact (y7 (uW (y7 f1 f2)) (cC fd)).mono (by decide)
   have csc:=gY (f:=pa.f) (q:=hi/(hi-lo)) hpf w1 (by decide) oM (by decide);have cnum:=TQ (-(lo*hi)/(hi-lo));have wn:(F.num (-(lo*hi)/(hi-lo))).fl (2^23) 0:=⟨λt ht=>absurd ht (by simp[F.num]),w2,yC _⟩;have cadd:=Hy (f:=pa.f.scale (hi/(hi-lo))) (g:=F.num (-(lo*hi)/(hi-lo))) (Cn.nil.mrg hpn) Cn.nil (hpf.scale w1) wn (by decide) (by decide) oM (by decide);have cdv:=Aa (zI AC) (zI (hi-lo)) ((zU fAC).mono oM) ((zU fd).mono (by decide)) (by rw[z9];exact hne);simp only[z9] at cdv;rw[<-hAC] at cdv;simp only[fv,hpc] at csc cnum cadd;obtain⟨TA,hTA⟩:=ex (fA ((pa.f.scale (hi/(hi-lo))).add (F.num (-(lo*hi)/(hi-lo)))));rw[hTA] at cadd;obtain⟨SA,hSA⟩:=ex (fA (pa.f.scale (hi/(hi-lo))));rw[hSA] at cadd csc;obtain⟨NA,hNA⟩:=ex (fA (F.num (-(lo*hi)/(hi-lo))));rw[hNA] at cadd cnum;generalize (pa.f.scale (hi/(hi-lo))).add (F.num (-(lo*hi)/(hi-lo)))=TF at *;obtain⟨W4,hW4⟩:=ex (zI (AC/(hi-lo)));rw[hW4] at cdv;generalize AC/(hi-lo)=W5 at *;generalize zI (hi/(hi-lo))=W1 at *;generalize zI (-(lo*hi)/(hi-lo))=W2 at *;generalize zI (hi-lo)=W3 at *;generalize aD lo hi=sb at *;clear hx hy hv1 hv2 a1 a2 a3 a4 a5 a6 w1 w2 wn hSA hNA hu hne f1 f2 fd conn coff csu k0 k1 k2;cbv;refine w5 17 [(16,24)] (by cbv) (by cbv) (by cbv) ?_;cbv;refine⟨zC om om,xG g1 (by exact om) yR y4 ?_⟩;cbv;refine⟨zC om om,xG g2 (by exact om) yR y4 ?_⟩;cbv;refine cA cln ?_;cbv;refine zL 6 (by cbv) ?_;cbv;refine dA csc ?_;cbv;refine dA cnum ?_;cbv;refine dA cadd ?_;cbv;refine s4 (σ:=Unit) (λ_=>⟨[(2,mlv ML0),(5,.ptr 5 0),(8,.ptr 8 0),(11,iV v),(15,.ptr 15 0),(22,.ptr 22 0),(23,.ptr 23 0)],
    [(5,.box [tsv FA.ts,bV FA.c.neg,nat FA.c.num,nat FA.c.den]),(8,.box [.nil,.ff,.nil,.nil]),(15,.box [bV W4.neg,nat W4.num,nat W4.den]),(22,.box (rwc ⟨13,j,b1,b2⟩)),(23,.box [tsv TA.ts,bV TA.c.neg,nat TA.c.num,nat TA.c.den])]⟩) (λ_=>True) (.refl _) (by cbv) ?_ ?_
   ·cbv
    repeat' first
     |exact trivial
     |(refine yP rfl okA csb rfl ?_;cbv)
     |(refine yP rfl okA cdv rfl ?_;cbv)
     |exact⟨(),trivial,wkY (by cbv;repeat' first|exact trivial|exact lR|exact zB hv|exact zK rfl|exact yQ rfl|apply And.intro)⟩
     |apply And.intro
   {intro _ _;cbv;exact⟨(⟨13,j,b1,b2⟩,TF,W5,W4,TA),⟨g,hW4.symm,hTA.symm⟩,wkY (by cbv;repeat' first|exact trivial|exact lR|exact zB hv|exact zK rfl|exact yQ rfl|apply And.intro)⟩}
 {obtain⟨row,g,q,r,a⟩:=y;obtain⟨y1,y2,y3⟩:=hy;dsimp only at y1 y2 y3;obtain⟨d1,d2⟩:=csu (row,g,q) y1;obtain⟨q1,q2,q3⟩:=k2 e0 (row,g,q) y1;dsimp only at d1 d2 q1 q2;rw[<-y2] at d2;rw[<-y3] at d1;rw[<-q1] at d1;rw[<-q2] at d2;subst q3;clear k0 k1 k2 a1 a2 a3 a4 a5 a6 csu;cbv;refine zL 8 (by cbv) ?_;cbv;refine dA d1 ?_;cbv;refine dA d2 ?_;cbv;exact rA}
abbrev oFL (o:Option (F×List (Row×Rat))):F×List (Row×Rat):=o.getD (F.zero,[])
structure BackOk (s:Scp) (f:F):Prop where
 vd:(fA f).valid s.q.g.vars=true
 sz:(fA f).sz (2^26)
 us:∀ (j:Nat) pa,s.q.g.us[j]?=some pa->fA pa.f=pa/\Cn pa.f.ts/\pa.f.fl (2^20) (2^30)
 st:∃ P:Nat->F×List (Row×Rat)->Prop,P s.q.g.us.length (f,[])/\(∀ j x,P j x->Cn x.1.ts/\(∃ k,x.1.fl k (2^30)/\1<=k/\k<=2^24)/\Mfit (2^30) x.2)/\∀ j x pa y,P (j+1) x->s.q.g.us[j]?=some pa->s.rep1 pa.f j x=some y->P j y
def NI (s:Scp)(f:F)(hs:Usz s)(hz:s.q.sz (2^20))(hb:BackOk s f):zD 114 [sv s,fv f] (.tup [fv (oFL (s.back f)).1,mlv (mR (oFL (s.back f)).2),bV ((s.back f).isSome)]):=by
 refine sF Tryz.f114 ?_;obtain⟨v1,v2,v3,v4,v5⟩:=mV hs.v;have cv:=lE s.q (hz.mono (by decide));have cvr:=i9 s.q.g (hz.g.mono (by decide));have hgv:s.q.g.valid=true:=by have:=hs.v;unfold Qry.valid at this;grind
 rw[hs.v] at cv;rw[if_pos hgv] at cvr;have c7:=GG (fA f) s.q.g.vars (hb.sz.mono (by decide));rw[hb.vd] at c7;obtain⟨P,p1,p2,p3⟩:=hb.st;have cr:∀ (j:Nat) pa x,s.q.g.us[j]?=some pa->P (j+1) x->zD 174 [sv s,fv x.1,mlv (mR x.2),iV j] (.tup [fv (oFL (s.rep1 pa.f j x)).1,mlv (mR (oFL (s.rep1 pa.f j x)).2),bV ((s.rep1 pa.f j x).isSome)]):=λj pa x hp hx=>by obtain⟨a1,a2,a3⟩:=hb.us j pa hp;obtain⟨b1,⟨k,b2,b3,b4⟩,b5⟩:=p2 _ x hx;exact Nd s j pa x.1 x.2 hs hp a1 a2 a3 (by decide) b1 b2 b3 b4 b5
 obtain⟨RP,hRP⟩:∃ RP:F->Nat->F×List (Row×Rat)->Option (F×List (Row×Rat)),s.rep1=RP:=⟨_,rfl⟩;rw[hRP] at cr p3;have hBs:∀ (j:Nat) pa x,s.q.g.us[j]?=some pa->s.backG (j+1) x=match RP pa.f j x with
   |none=>none| some y=>s.backG j y:=λj pa x h=>by
  rw[<-hRP,show s.backG (j+1) x=(match s.q.g.us[j]? with
   |none=>none
   |some p=>match s.rep1 p.f j x with
    |none=>none| some y=>s.backG j y) from rfl,h]
 have hB0:∀ x,s.backG 0 x=some x:=λ_=>rfl;obtain⟨O,hO⟩:=ex (s.back f);have hO':s.backG s.q.g.us.length (f,[])=O:=hO;obtain⟨BG,hBG⟩:∃ BG:Nat->F×List (Row×Rat)->Option (F×List (Row×Rat)),s.backG=BG:=⟨_,rfl⟩;rw[hO];rw[hBG] at hBs hB0 hO';obtain⟨FV,hFV⟩:=ex (fA (oFL O).1);obtain⟨ML,hML⟩:=ex (mR (oFL O).2);obtain⟨OB,hOB⟩:=ex O.isSome;simp only[fv] at *;rw[hFV,hML,hOB];have o0:O=none->FV=⟨[],R0⟩/\ML=[]/\OB=false:=λh=>by rw[<-hFV,<-hML,<-hOB,h];exact⟨uK,rfl,rfl⟩
 have o1:∀ y,O=some y->FV=fA y.1/\ML=mR y.2/\OB=true:=λy h=>by grind
 generalize s.q.g.vars=N at *;obtain⟨FA,hFA⟩:=ex (fA f);rw[hFA] at c7 ⊢;obtain⟨⟨⟨gn,us,os⟩,⟨lo,hi',rows⟩,⟨ts',c1',c2',c3'⟩⟩,path,L⟩:=s;dsimp only at *;clear hO hBG hRP hFV hML hOB hgv hs hz hb;cbv;refine zL 13 (by cbv) ?_;cbv;refine dA cv ?_;cbv;refine sG rfl ?_;cbv;refine dA cvr ?_;cbv;refine dA c7 ?_;cbv;refine fL rfl ?_;cbv;refine⟨zC (by rw[zA];exact om) (by rw[zA];exact om),?_⟩;refine zW (σ:=Nat×(F×List (Row×Rat))×A×List Mult) (λst=>⟨[(2,.ptr 2 0),(3,.ptr 3 0),(4,.ptr 4 0),(7,mlv st.2.2.2),(9,iV (((st.1:Nat):Int)-1))],[(2,.box (sc ⟨⟨⟨gn,us,os⟩,⟨lo,hi',rows⟩,⟨ts',c1',c2',c3'⟩⟩,path,L⟩)),(3,.box [tsv st.2.2.1.ts,bV st.2.2.1.c.neg,nat st.2.2.1.c.num,nat st.2.2.1.c.den]),(4,.box [.nil,.ff,.nil,.nil])]⟩)
  (λst=>st.1<=us.length/\P st.1 st.2.1/\BG st.1 st.2.1=O/\st.2.2.1=fA st.2.1.1/\st.2.2.2=mR st.2.1.2) (λst=>st.1) (us.length,(f,[]),FA,[]) ⟨yC _,p1,hO',hFA.symm,rfl⟩ (.le (by cbv;repeat' first|exact trivial|exact lR|exact zB (by rw[zA])|exact yQ rfl|apply And.intro) (by cbv;repeat' first|exact trivial|exact lR|apply And.intro) rfl) ?_
 clear hO' p1 cv cvr c7 hFA;intro st hst;obtain⟨i,x,a,m⟩:=st;obtain⟨g1,g2,g3,g4,g5⟩:=hst;dsimp only at g1 g2 g3 g4 g5;cbv;refine zE (λh5=>?_) (λh5=>?_)
 ·obtain⟨j,rfl⟩:∃ j,i=j+1:=⟨i-1,by exact om⟩;obtain⟨pa,hpa⟩:=zQ (l:=us) (i:=j) oM;have c:=cr j pa x hpa g2;have n3:=p3 j x pa;rw[hBs j pa x hpa] at g3;rw[<-g4,<-g5] at c;rcases hr:RP pa.f j x with _|y
  ·rw[hr] at g3 c;obtain⟨q1,q2,q3⟩:=o0 g3.symm;subst q1 q2 q3;clear cr hBs n3;generalize fA (oFL none).1=W at *;generalize mR (oFL none).2=W2 at *;cbv;refine yP rfl (by repeat' first|exact trivial|exact lR|exact zB (by exact om)|apply And.intro) c rfl ?_;cbv
   (try (refine ZC rfl ?_;cbv))
   exact rA
  ·rw[hr] at g3 c;have n4:=n3 y g2 hpa hr;obtain⟨W,hW⟩:=ex (fA (oFL (some y)).1);obtain⟨W2,hW2⟩:=ex (mR (oFL (some y)).2);rw[hW,hW2] at c;clear cr hBs n3;cbv;refine yP rfl (by repeat' first|exact trivial|exact lR|exact zB (by exact om)|apply And.intro) c rfl ?_;cbv
   (try (refine fL rfl ?_;cbv))
   exact⟨zC om om,(j,y,W,W2),⟨(show j<=_ by omega),n4,g3,hW.symm,hW2.symm⟩,(show j<j+1 by omega),.le (by cbv;repeat' first|exact trivial|exact lR|exact zB om|apply And.intro) (by cbv;repeat' first|exact trivial|exact lR|apply And.intro) rfl⟩
 ·(have hi:i=0:=by exact om);subst hi
  rw[hB0] at g3;obtain⟨q1,q2,q3⟩:=o1 x g3.symm;rw[<-g4] at q1;rw[<-g5] at q2;subst q1 q2 q3;cbv;exact rA
abbrev oRL (o:Option (Rat×List (Row×Rat))):PV:=.tup [rv (zI (oVq o)),mlv (mR (oL o)),bV o.isSome]
structure LowOk (s:Scp) (f:F):Prop where
 bk:BackOk s f
 bx:∀ g,s.back f=some g->BoxOk s g.1/\(s.box g.1).isSome=true/\(∀ t,t∈g.2->Fits (2^28) t.2)/\g.2.length<=2^36/\(∀ t,t∈oL (s.box g.1)->Fits (2^23) t.2)/\(oL (s.box g.1)).length<=32
def No (s:Scp)(f:F)(hs:Usz s)(hz:s.q.sz (2^20))(hp:Dsz (2^20) s.path)(h:LowOk s f):zD 47 [sv s,fv f] (oRL (s.low f)):=by
 refine sF Tryz.f47 ?_;have cb:=NI s f hs hz h.bk;have c1:=s32 1 (by decide) (by decide);rw[show (((1:Int):Rat))=(1:Rat) by rfl] at c1;have hlow:s.low f=(s.back f).map λg=>(oVq (s.box g.1),xS g.2 (oL (s.box g.1)) 1):=rfl;obtain⟨FA,hFA⟩:=ex (fA f);simp only[fv] at *;unfold oRL;rw[hFA] at cb ⊢;have hbx:=h.bx;rcases hbk:s.back f with _|g
 ·(rw[hbk] at cb hlow;obtain⟨V,hV⟩:=ex (zI (oVq (s.low f)));obtain⟨M,hM⟩:=ex (mR (oL (s.low f)));obtain⟨B,hB⟩:=ex ((s.low f).isSome);have q1:V=R0:=by rw[<-hV,hlow];exact uT);have q2:M=[]:=by rw[<-hM,hlow];rfl
  (have q3:B=false:=by grind);rw[hV,hM,hB]
  subst q1 q2 q3;generalize fA (oFL none).1=W at *;generalize mR (oFL none).2=W2 at *;clear hlow hbx hs hz hp h hbk hV hM hB hFA;cbv;refine cA cb ?_;cbv
  (try (refine ZC rfl ?_;cbv))
  exact rA
 ·(obtain⟨b1,b2,b3,b4,b5,b6⟩:=hbx g hbk;have cx:=TI s g.1 hs hz hp b1;have cm:=Hu g.2 (oL (s.box g.1)) (zI 1) b3 b4 b5 b6 ((zU fits_one).mono (by decide));rw[z9] at cm;rw[b2] at cx;rw[hbk] at cb hlow;have e1:oVq (s.low f)=oVq (s.box g.1):=by rw[hlow];rfl);have e2:oL (s.low f)=xS g.2 (oL (s.box g.1)) 1:=by rw[hlow];rfl
  (have e3:(s.low f).isSome=true:=by grind);rw[e1,e2,e3]
  simp only[fv] at cx;obtain⟨W,hW⟩:=ex (fA g.1);have hW':fA (oFL (some g)).1=W:=hW;rw[hW] at cx;rw[hW'] at cb;obtain⟨W2,hW2⟩:=ex (mR g.2);have hW2':mR (oFL (some g)).2=W2:=hW2;rw[hW2] at cm;rw[hW2'] at cb;generalize mR (xS g.2 (oL (s.box g.1)) 1)=W3 at *;generalize mR (oL (s.box g.1))=W4 at *;generalize zI (oVq (s.box g.1))=W5 at *;generalize zI 1=R1 at *;clear hlow hbx hs hz hp h hbk b1 b2 b3 b4 b5 b6 hW hW' hW2 hW2' e1 e2 e3 hFA;cbv;refine cA cb ?_;cbv
  (try (refine fL rfl ?_;cbv))
  refine cA cx ?_;cbv;refine zL 5 (by cbv) ?_;cbv;refine dA c1 ?_;cbv;refine dA cm ?_;cbv;exact rA
structure DomOk (s:Scp) (f:F):Prop where
 bx:BoxOk s f
 lw:LowOk s f
 v:Fits (2^30) (oVq (s.box f))/\Fits (2^30) (oVq (s.low f))
def TE (n : Nat) (s : Scp) (f : F) (hs : Usz s) (hz : s.q.sz (2^20)) (hp : Dsz (2^20) s.path) (h : DomOk s f) : zD 12 [iV n, sv s, fv f] (oRL (s.dom n f)) := by
  refine sF Tryz.f12 ?_
  have cx := TI s f hs hz hp h.bx
  have cl := No s f hs hz hp h.lw
  have cc := s42 (zI (oVq (s.box f))) (zI (oVq (s.low f))) ((zU h.v.1).mono (by decide)) ((zU h.v.2).mono (by decide))
  simp only [z9] at cc
  have hd : s.dom n f = if n = 0 ∨ (n = 2 ∧ (s.box f).isSome = true ∧ ((s.low f).isSome = false ∨ 0 ≤ uM (oVq (s.box f)) (oVq (s.low f)))) then s.box f else s.low f := rfl
  generalize uM (oVq (s.box f)) (oVq (s.low f)) = cm at *
  unfold oRL at *
  generalize s.box f = o1 at *
  generalize s.low f = o2 at *
  generalize s.dom n f = o at *
  obtain ⟨X1, hX1⟩ := ex (zI (oVq o1))
  obtain ⟨M1, hM1⟩ := ex (mR (oL o1))
  obtain ⟨B1, hB1⟩ := ex o1.isSome
  obtain ⟨X2, hX2⟩ := ex (zI (oVq o2))
  obtain ⟨M2, hM2⟩ := ex (mR (oL o2))
  obtain ⟨B2, hB2⟩ := ex o2.isSome
  obtain ⟨V, hV⟩ := ex (zI (oVq o))
  obtain ⟨M, hM⟩ := ex (mR (oL o))
  obtain ⟨B, hB⟩ := ex o.isSome
  rw [hB1, hB2] at hd
  have d1 : ((n : Int) = 0 ∨ ((n : Int) = 2 ∧ B1 = true ∧ (B2 = false ∨ 0 ≤ cm))) → V = X1 ∧ M = M1 ∧ B = B1 := fun g => by
    grind
  have d2 : ¬ ((n : Int) = 0 ∨ ((n : Int) = 2 ∧ B1 = true ∧ (B2 = false ∨ 0 ≤ cm))) → V = X2 ∧ M = M2 ∧ B = B2 := fun g => by
    grind
  rw [hX1, hM1, hB1] at cx
  rw [hX2, hM2, hB2] at cl
  rw [hX1, hX2] at cc
  rw [hV, hM, hB]
  clear hX1 hX2 hM1 hM2 hB1 hB2 hV hM hB hd hs hz hp h
  obtain ⟨FA, hFA⟩ := ex (fA f)
  simp only [fv] at *
  rw [hFA] at cx cl ⊢
  clear hFA
  cbv
  refine cA cx ?_
  cbv
  refine cA cl ?_
  cbv
  refine Jv ?_
  cbv
  repeat' first
    | (refine zO (fun e => ?_) (fun e => ?_) <;> cbv)
    | (refine yA (fun e => ?_) (fun e => ?_) <;> cbv)
    | (refine zE (fun e => ?_) (fun e => ?_) <;> cbv)
    | (refine zN (fun e => ?_) (fun e => ?_) <;> cbv)
    | (refine yP rfl okA cc rfl ?_; cbv)
    | (have g : ((n : Int) = 0 ∨ ((n : Int) = 2 ∧ B1 = true ∧ (B2 = false ∨ 0 ≤ cm))) := by ((try dsimp only [zV] at *); grind)
       obtain ⟨q1, q2, q3⟩ := d1 g
       subst q1 q2 q3
       (refine rC ?_; cbv)
       exact okA)
    | (have g : ¬ ((n : Int) = 0 ∨ ((n : Int) = 2 ∧ B1 = true ∧ (B2 = false ∨ 0 ≤ cm))) := by ((try dsimp only [zV] at *); grind)
       obtain ⟨q1, q2, q3⟩ := d2 g
       subst q1 q2 q3
       (refine rC ?_; cbv)
       exact okA)
def Nf (x:R)(up:Bool)(hx:x.sz (2^32)):zD 98 [rv x,iV 0,bV up] (rv (zI x.q)):=by
 refine sF Tryz.f98 ?_;have c:=s47 x hx;generalize zI x.q=W at *;clear hx;cbv
 (try (refine wZ rfl ?_;cbv))
 refine cA c ?_;cbv;exact rA
def M9 (s:Scp)(m:Lem)(hs:Lsz (2^20) s.lems)(hv:m.v.sz (2^31)):zD 99 [sv s,lv' m] (bV (s.strg m.u m.up m.v.q)):=by
 refine sF Tryz.f99 ?_;have cb:=dW s m.u hs;have hll:=hs.len;have hss:=hs.sz;have hv1:=λh=>Ze (s:=s) (j:=m.u) h;have hv2:=λh=>YA (s:=s) (j:=m.u) h;have cc:∀ y:R,y.sz (2^20)->zD 48 [rv m.v,rv y] (iV (uM m.v.q y.q)):=λy h=>s42 m.v y hv (h.mono (by decide));obtain⟨r,hr⟩:=ex (s.strg m.u m.up m.v.q);have h1:m.up=true->r=decide ((s.best m.u).2=0\/uM m.v.q (s.vHi m.u)<0):=λh=>by rw[<-hr];unfold Scp.strg;rw[if_pos h]
 have h2:m.up=false->r=decide ((s.best m.u).1=0\/0<uM m.v.q (s.vLo m.u)):=λh=>by rw[<-hr];unfold Scp.strg;rw[if_neg (by rw[h];decide)]
 rw[hr];obtain⟨u,up,v,pf⟩:=m;dsimp only at *;generalize s.best u=B at *;generalize s.vLo u=lo at *;generalize s.vHi u=hi at *;obtain⟨b1,b2⟩:=B;obtain⟨⟨⟨gn,us,os⟩,⟨lo',hi',rows⟩,⟨ts',c1',c2',c3'⟩⟩,path,L⟩:=s;dsimp only at *;clear hr hs hv;cbv;refine cA cb ?_;cbv;refine zN (λe=>?_) (λe=>?_)
 ·have h1':=h1 e;cbv;refine zL 15 (by cbv) ?_;cbv;refine zO (λx=>?_) (λx=>?_)
  ·cbv
   (refine rC ?_;cbv)
   exact yJ (by rw[h1'];exact decide_eq_true (.inl (by exact om)))
  (have y2:b2≠0:=by exact om);obtain⟨m2,g2,hy⟩:=hv2 y2
  have z2:=hss m2 (z8 g2);have l2:=(vV.1 g2).1;have c:=cc m2.v z2;rw[<-hy] at c;generalize uM v.q hi=cm at *;cbv;refine⟨zC om om,xG g2 (by exact om) yR y4 ?_⟩;cbv;refine dA c ?_;cbv
  (refine rC ?_;cbv)
  exact zX (by rw[h1',decide_eq_decide];exact⟨.inr,λh=>h.elim (λh=>absurd h y2) id⟩)
 ·have h1':=h2 e;cbv;refine zL 15 (by cbv) ?_;cbv;refine zO (λx=>?_) (λx=>?_)
  ·cbv
   (refine rC ?_;cbv)
   exact yJ (by rw[h1'];exact decide_eq_true (.inl (by exact om)))
  (have y2:b1≠0:=by exact om);obtain⟨m2,g2,hy⟩:=hv1 y2
  have z2:=hss m2 (z8 g2);have l2:=(vV.1 g2).1;have c:=cc m2.v z2;rw[<-hy] at c;generalize uM v.q lo=cm at *;cbv;refine⟨zC om om,xG g2 (by exact om) yR y4 ?_⟩;cbv;refine dA c ?_;cbv
  (refine rC ?_;cbv)
  exact zX (by rw[h1',decide_eq_decide];exact⟨.inr,λh=>h.elim (λh=>absurd h y2) id⟩)
end Go.Proofs.YtaeaffgjdcigoaaGreat
