/- A part of the proof: KcH, KcJ, KcK, KcG, KcI. -/
import Derived.Test.YtaeaffgjdcigoaaGreatG32
import Derived.Test.YtaeaffgjdcigoaaGreatG21
import Derived.Test.YtaeaffgjdcigoaaGreatG20
import Derived.Test.YtaeaffgjdcigoaaGreatG31
set_option linter.all false
namespace Go.Proofs.YtaeaffgjdcigoaaGreat
open Go
set_option maxRecDepth 100000
set_option maxHeartbeats 8000000
def Th {s:Scp}(hs:Lsz (2^20) s.lems){j:Int}(h:(s.best j).1≠0):Fits (2^20) (s.vLo j):=by obtain⟨m,hm,e⟩:=ZJ h;rw[e];exact (hs.sz m (zX hm)).fits (by decide)
def Ti {s:Scp}(hs:Lsz (2^20) s.lems){j:Int}(h:(s.best j).2≠0):Fits (2^20) (s.vHi j):=by obtain⟨m,hm,e⟩:=Xi h;rw[e];exact (hs.sz m (zX hm)).fits (by decide)
def RO {s:Scp}(hs:Lsz (2^20) s.lems){p:F}{c:Rat}{j:Int}{k n:Nat}(hc:Fits k c)(hp:Cn p.ts)(hf:p.fl (2^20) n){y:Row×F×Rat}(h:s.repl p c j=some y):Cn y.2.1.ts/\y.2.1.fl (2^24) n/\Fits (k+2^22) y.2.2:=by
 have ha:=jX hc;have z:Cn F.zero.ts/\F.zero.fl (2^24) n:=⟨Cn.nil,zero_fl.mono (by decide) (yU _)⟩;have q:Cn p.ts/\p.fl (2^24) n:=⟨hp,hf.mono (by decide) (yD _)⟩;have a:Fits (k+2^22) (vP c):=ha.mono oM;unfold Scp.repl at h;split at h;{grind};split at h;{grind};split at h;{grind};split at h;{cases h}
 ·rename_i hb;have f1:=Th hs (j:=j) (λe=>hb (.inl e));have f2:=Ti hs (j:=j) (λe=>hb (.inr e));have fd:=bD (vC f2 f1);cases h;refine⟨(Cn.nil.mrg hp).mrg Cn.nil,?_,?_⟩
  ·(have e1:Fits (2^20+(2^20+2^20+1)) (s.vHi j/(s.vHi j-s.vLo j)):=by rw[s8];exact yY f2 fd);have e2:Fits (2^20+2^20+(2^20+2^20+1)) (-(s.vLo j*s.vHi j)/(s.vHi j-s.vLo j)):=by rw[s8];exact yY (qE (yY f1 f2)) fd
   have e3:(F.num (-(s.vLo j*s.vHi j)/(s.vHi j-s.vLo j))).fl (2^20+2^20+(2^20+2^20+1)) 0:=⟨λt ht=>absurd ht (by simp[F.num]),e2,yD _⟩;exact ((hf.scale e1).add e3).mono (by decide) oM
  {show Fits _ (vP c/(s.vHi j-s.vLo j));rw[s8];exact (yY ha fd).mono oM}
def EC (s:Scp)(j:Nat)(pa:A)(f:F)(l:List (Row×Rat)){k n:Nat}(hs:Usz s)(hp:s.q.g.us[j]?=some pa)(hpc:fA pa.f=pa)(hpn:Cn pa.f.ts)(hpf:pa.f.fl (2^20) n)(hn:n<=2^33) (hc:Cn f.ts) (hf:f.fl k n) (h1:1<=k) (hk:k<=2^24) (hl:Mfit (2^30) l):zD 174 [sv s,fv f,mlv (mR l),iV j] (.tup [fv ((s.rep1 pa.f j (f,l)).getD (F.zero,[])).1,mlv (mR ((s.rep1 pa.f j (f,l)).getD (F.zero,[])).2),bV ((s.rep1 pa.f j (f,l)).isSome)]):=by
 refine sF Tryz.f174 ?_;obtain⟨v1,v2,v3,v4,v5⟩:=nX hs.v;obtain⟨v,hv⟩:∃ v:Int,s.q.g.n+j=v:=⟨_,rfl⟩;have hjl:j<1024:=by grind
 have hfc:=Q7 hc hf.t h1 v;have ck:=Lj f v hc (by have:=hf.len;omega);have csg:=s35 (zG (co f.ts v)) (xF (zT hfc).n oM);rw[zV] at csg;have cb:=fN s j hs.l;have con:=Lh s j hs;have cof:=PQ s j hs;have hll:=hs.l.len;have hss:=hs.l.sz;have hsl:=hs.l;have hrz:=λy h=>RO (s:=s) (y:=y) hs.l (c:=co f.ts v) (j:=j) hfc hpn hpf h;have hv1:=λh=>ZJ (s:=s) (j:=j) h;have hv2:=λh=>Xi (s:=s) (j:=j) h;have coff:(s.offR j).2=false->0<(s.best j).2->0<z3 (s.vHi j):=λh h'=>by unfold Scp.offR at h;grind
 have conn:(s.onR j).2=false->0<(s.best j).1->z3 (s.vLo j)<0:=λh h'=>by unfold Scp.onR at h;grind
 have hR:s.rep1 pa.f j (f,l)=if z3 (co f.ts v)=0 then some (f,l) else match s.repl pa.f (co f.ts v) j with
  |none=>none| some y=>some (f.subst v y.2.1,plMq l y.1 y.2.2):=by rw[<-hv];rfl
 have csu:∀ y,s.repl pa.f (co f.ts v) j=some y->zD 210 [fv f,iV v,fv y.2.1] (fv (f.subst v y.2.1))/\zD 112 [mlv (mR l),rwv y.1,rv (zG y.2.2)] (mlv (mR (plMq l y.1 y.2.2))):=λy h=>by obtain⟨e1,e2,e3⟩:=hrz y h;have:=Rm l y.1 (zG y.2.2) hl ((zT e3).mono oM);rw[zV] at this;exact⟨Oc f y.2.1 v hc e1 hf e2 h1 oM oM oM,this⟩
 have hrp:s.repl pa.f (co f.ts v) j=if (s.onR j).2=true then some ((if 0<z3 (co f.ts v) then ⟨6,j,0,0⟩ else (s.onR j).1),pa.f,vP (co f.ts v))
  else if (s.offR j).2=true then some ((if z3 (co f.ts v)<0 then (s.offR j).1 else ⟨5,j,0,0⟩),F.zero,vP (co f.ts v))
  else if 0<z3 (co f.ts v) then
   (if 0<(s.best j).1/\0<(s.best j).2/\aX (s.vLo j) (s.vHi j)=true then some (⟨6,j,0,0⟩,pa.f,vP (co f.ts v)) else some (⟨5,j,0,0⟩,F.zero,vP (co f.ts v)))
  else if (s.best j).1=0\/(s.best j).2=0 then none
  else some (⟨13,j,(s.best j).1,(s.best j).2⟩,(pa.f.scale (s.vHi j/(s.vHi j-s.vLo j))).add (F.num (-(s.vLo j*s.vHi j)/(s.vHi j-s.vLo j))),vP (co f.ts v)/(s.vHi j-s.vLo j)):=rfl
 have hAC:=sH (co f.ts v);have fAC:=jX hfc;obtain⟨RR,hRe⟩:=ex (s.rep1 pa.f j (f,l));rw[hRe] at hR ⊢;obtain⟨FV,hFV⟩:=ex (fA (RR.getD (F.zero,[])).1);obtain⟨ML,hML⟩:=ex (mR (RR.getD (F.zero,[])).2);obtain⟨RB,hRB⟩:=ex RR.isSome;simp only[fv] at *;rw[hFV,hML,hRB];generalize s.repl pa.f (co f.ts v) j=rp at *;generalize vP (co f.ts v)=AC at *;obtain⟨C,hC⟩:=ex (zG (co f.ts v));rw[hC] at ck csg hAC;generalize s.onR j=on at *;generalize s.offR j=off at *;generalize s.best j=B at *;generalize s.vLo j=lo at *;generalize s.vHi j=hi at *;obtain⟨ron,bon⟩:=on;obtain⟨rof,bof⟩:=off;obtain⟨b1,b2⟩:=B;dsimp only at *;generalize hsg:z3 (co f.ts v)=sg at *;have k0:sg=0->FV=fA f/\ML=mR l/\RB=true:=λh=>by rw[<-hFV,<-hML,<-hRB,hR,if_pos h];exact⟨rfl,rfl,rfl⟩
 have k1:sg≠0->rp=none->FV=⟨[],R0⟩/\ML=[]/\RB=false:=λh h'=>by rw[<-hFV,<-hML,<-hRB,hR,if_neg h,h'];exact⟨uV,rfl,rfl⟩
 have k2:sg≠0->∀ y,rp=some y->FV=fA (f.subst v y.2.1)/\ML=mR (plMq l y.1 y.2.2)/\RB=true:=λh y h'=>by rw[<-hFV,<-hML,<-hRB,hR,if_neg h,h'];exact⟨rfl,rfl,rfl⟩
 have a1:bon=true->rp=some ((if 0<sg then ⟨6,j,0,0⟩ else ron),pa.f,AC):=λh=>by rw[hrp,if_pos h]
 have a2:bon=false->bof=true->rp=some ((if sg<0 then rof else ⟨5,j,0,0⟩),F.zero,AC):=λh h'=>by rw[hrp,if_neg (by rw[h];decide),if_pos h']
 have a3:bon=false->bof=false->0<sg->(0<b1/\0<b2/\aX lo hi=true)->rp=some (⟨6,j,0,0⟩,pa.f,AC):=λh h' g g'=>by rw[hrp,if_neg (by rw[h];decide),if_neg (by rw[h'];decide),if_pos g,if_pos g']
 have a4:bon=false->bof=false->0<sg->¬(0<b1/\0<b2/\aX lo hi=true)->rp=some (⟨5,j,0,0⟩,F.zero,AC):=λh h' g g'=>by rw[hrp,if_neg (by rw[h];decide),if_neg (by rw[h'];decide),if_pos g,if_neg g']
 have a5:bon=false->bof=false->¬0<sg->(b1=0\/b2=0)->rp=none:=λh h' g g'=>by rw[hrp,if_neg (by rw[h];decide),if_neg (by rw[h'];decide),if_neg g,if_pos g']
 have a6:bon=false->bof=false->¬0<sg->¬(b1=0\/b2=0)->rp=some (⟨13,j,b1,b2⟩,(pa.f.scale (hi/(hi-lo))).add (F.num (-(lo*hi)/(hi-lo))),AC/(hi-lo)):=λh h' g g'=>by rw[hrp,if_neg (by rw[h];decide),if_neg (by rw[h'];decide),if_neg g,if_neg g']
 obtain⟨FA,hFA⟩:=ex (fA f);simp only[hFA] at ck csu k0;obtain⟨ML0,hML0⟩:=ex (mR l);simp only[hML0] at csu k0;rw[hFA,hML0];have z0:=uV;obtain⟨⟨⟨gn,us,os⟩,⟨lo',hi'',rows⟩,⟨ts,c1',c2',c3'⟩⟩,path,L⟩:=s;dsimp only at *;clear hR hRe hFV hML hRB hrp hsg hC hs hc hf hl hrz hFA hML0 hfc hsl;cbv;refine⟨zC om om,?_⟩;cbv;refine yB hp qS j6 ?_;cbv;refine yP rfl (by repeat' first|exact trivial|exact lR|exact zB hv|apply And.intro) ck rfl ?_;cbv;refine cA csg ?_;cbv;refine zE (λe0=>?_) (λe0=>?_);{obtain⟨q1,q2,q3⟩:=k0 e0;subst q1 q2 q3;cbv;exact rA};cbv;refine cA cb ?_;cbv;refine cA con ?_;cbv;refine cA cof ?_;cbv;refine lT (σ:=Row×F×Rat×R×A) (λy=>⟨[(2,mlv ML0),(5,.ptr 5 0),(8,.ptr 8 0),(11,iV v),(15,.ptr 15 0),(22,.ptr 22 0),(23,.ptr 23 0)],
   [(5,.box [tsv FA.ts,bV FA.c.neg,nat FA.c.num,nat FA.c.den]),(8,.box [.nil,.ff,.nil,.nil]),(15,.box [bV y.2.2.2.1.neg,nat y.2.2.2.1.num,nat y.2.2.2.1.den]),(22,.box (rwc y.1)),(23,.box [tsv y.2.2.2.2.ts,bV y.2.2.2.2.c.neg,nat y.2.2.2.2.c.num,nat y.2.2.2.2.c.den])]⟩)
  (λy=>rp=some (y.1,y.2.1,y.2.2.1)/\y.2.2.2.1=zG y.2.2.1/\y.2.2.2.2=fA y.2.1) (λe=>?_) (λe=>?_) (λy hy=>?_)
 {have g:=a1 e;cbv;refine vD 3 [(2,22)] (by cbv) (by cbv) (by cbv) ?_;cbv;refine zE (λe1=>?_) (λe1=>?_);{rw[if_pos e1] at g;cbv;exact⟨(⟨6,j,0,0⟩,pa.f,AC,⟨false,C.num,C.den⟩,pa),⟨g,hAC,hpc.symm⟩,wkY (by cbv;repeat' first|exact trivial|exact lR|exact zB hv|exact zK rfl|exact yX rfl|apply And.intro)⟩};{rw[if_neg e1] at g;cbv;exact⟨(ron,pa.f,AC,⟨false,C.num,C.den⟩,pa),⟨g,hAC,hpc.symm⟩,wkY (by cbv;repeat' first|exact trivial|exact lR|exact zB hv|exact zK rfl|exact yX rfl|apply And.intro)⟩}}
 ·cbv;refine zP (λe2=>?_) (λe2=>?_);{have g:=a2 e e2;cbv;refine zE (λe1=>?_) (λe1=>?_);{rw[if_pos e1] at g;cbv;exact⟨(rof,F.zero,AC,⟨false,C.num,C.den⟩,⟨[],R0⟩),⟨g,hAC,z0.symm⟩,wkY (by cbv;repeat' first|exact trivial|exact lR|exact zB hv|exact zK rfl|exact yX rfl|apply And.intro)⟩};{rw[if_neg e1] at g;cbv;exact⟨(⟨5,j,0,0⟩,F.zero,AC,⟨false,C.num,C.den⟩,⟨[],R0⟩),⟨g,hAC,z0.symm⟩,wkY (by cbv;repeat' first|exact trivial|exact lR|exact zB hv|exact zK rfl|exact yX rfl|apply And.intro)⟩}};cbv;refine zE (λe3=>?_) (λe3=>?_)
  ·cbv;refine zM 21 (by cbv) ?_;cbv;refine zQ (λx1=>?_) (λx1=>?_)
   rotate_left
   {have g:=a4 e e2 e3 (λh=>x1 (by exact om));cbv;exact⟨(⟨5,j,0,0⟩,F.zero,AC,⟨false,C.num,C.den⟩,⟨[],R0⟩),⟨g,hAC,z0.symm⟩,wkY (by cbv;repeat' first|exact trivial|exact lR|exact zB hv|exact zK rfl|exact yX rfl|apply And.intro)⟩};cbv;refine zQ (λx2=>?_) (λx2=>?_)
   rotate_left
   {have g:=a4 e e2 e3 (λh=>x2 (by exact om));cbv;exact⟨(⟨5,j,0,0⟩,F.zero,AC,⟨false,C.num,C.den⟩,⟨[],R0⟩),⟨g,hAC,z0.symm⟩,wkY (by cbv;repeat' first|exact trivial|exact lR|exact zB hv|exact zK rfl|exact yX rfl|apply And.intro)⟩};obtain⟨m1,g1,hx⟩:=hv1 (by exact om);obtain⟨m2,g2,hy⟩:=hv2 (by exact om);have z1:=hss m1 (zX g1);have z2:=hss m2 (zX g2);have l1:=(xP.1 g1).1;have l2:=(xP.1 g2).1;have csl:=Lf m1.v m2.v (z1.mono (by decide)) (z2.mono (by decide));rw[<-hx,<-hy] at csl;generalize aX lo hi=sb at *;clear hx hy hv1 hv2;cbv;refine⟨zC om om,y6 g1 (by exact om) y0 xD ?_⟩;cbv;refine⟨zC om om,y6 g2 (by exact om) y0 xD ?_⟩;cbv;refine cA csl ?_;cbv;refine zE (λx3=>?_) (λx3=>?_)
   ·have x3':sb=true:=by
     cases sb with
     |true=>rfl| false=>exact absurd x3 (by decide)
    have g:=a3 e e2 e3 ⟨by exact om,by exact om,x3'⟩;cbv;refine vD 4 [(3,22)] (by cbv) (by cbv) (by cbv) ?_;cbv;exact⟨(⟨6,j,0,0⟩,pa.f,AC,⟨false,C.num,C.den⟩,pa),⟨g,hAC,hpc.symm⟩,wkY (by cbv;repeat' first|exact trivial|exact lR|exact zB hv|exact zK rfl|exact yX rfl|apply And.intro)⟩
   {have g:=a4 e e2 e3 (λh=>x3 (by rw[if_pos h.2.2]));cbv;exact⟨(⟨5,j,0,0⟩,F.zero,AC,⟨false,C.num,C.den⟩,⟨[],R0⟩),⟨g,hAC,z0.symm⟩,wkY (by cbv;repeat' first|exact trivial|exact lR|exact zB hv|exact zK rfl|exact yX rfl|apply And.intro)⟩}
  ·cbv;refine zQ (λx1=>?_) (λx1=>?_);{obtain⟨q1,q2,q3⟩:=k1 e0 (a5 e e2 e3 (.inl (by exact om)));subst q1 q2 q3;cbv;exact rA};cbv;refine zE (λx2=>?_) (λx2=>?_);{obtain⟨q1,q2,q3⟩:=k1 e0 (a5 e e2 e3 (.inr (by exact om)));subst q1 q2 q3;cbv;exact rA}
   (have y1:b1≠0:=by exact om);have y2:b2≠0:=by exact om
   (have g:=a6 e e2 e3 (λh=>h.elim y1 y2);obtain⟨m1,g1,hx⟩:=hv1 y1;obtain⟨m2,g2,hy⟩:=hv2 y2;have z1:=hss m1 (zX g1);have z2:=hss m2 (zX g2);have l1:=(xP.1 g1).1;have l2:=(xP.1 g2).1;have hu:iU lo hi=true:=by unfold iU;rw[decide_eq_true (conn e oM),decide_eq_true (coff e2 oM)];rfl);obtain⟨hne,_,_⟩:=oE hu
   (have f1:=z1.fits (by decide);have f2:=z2.fits (by decide);have csb:=s93 m2.v m1.v (z2.mono (by decide)) (z1.mono (by decide));have cln:=Od m1.v m2.v (z1.mono (by decide)) (z2.mono (by decide)) (by rw[<-hx,<-hy];exact hu);rw[<-hx,<-hy] at csb cln;rw[<-hx] at f1;rw[<-hy] at f2;have fd:=vC f2 f1;have w1:Fits (2^23) (hi/(hi-lo)):=by rw[s8];exact (yY f2 (bD fd)).mono (by decide));have w2:Fits (2^23) (-(lo*hi)/(hi-lo)):=by rw[s8];exact (yY (qE (yY f1 f2)) (bD fd)).mono (by decide)
   have csc:=fO (f:=pa.f) (q:=hi/(hi-lo)) hpf w1 (by decide) oM (by decide);have cnum:=Lm (-(lo*hi)/(hi-lo));have wn:(F.num (-(lo*hi)/(hi-lo))).fl (2^23) 0:=⟨λt ht=>absurd ht (by simp[F.num]),w2,yD _⟩;have cadd:=G6 (f:=pa.f.scale (hi/(hi-lo))) (g:=F.num (-(lo*hi)/(hi-lo))) (Cn.nil.mrg hpn) Cn.nil (hpf.scale w1) wn (by decide) (by decide) oM (by decide);have cdv:=Ry (zG AC) (zG (hi-lo)) ((zT fAC).mono oM) ((zT fd).mono (by decide)) (by rw[zV];exact hne);simp only[zV] at cdv;rw[<-hAC] at cdv;simp only[fv,hpc] at csc cnum cadd;obtain⟨TA,hTA⟩:=ex (fA ((pa.f.scale (hi/(hi-lo))).add (F.num (-(lo*hi)/(hi-lo)))));rw[hTA] at cadd;obtain⟨SA,hSA⟩:=ex (fA (pa.f.scale (hi/(hi-lo))));rw[hSA] at cadd csc;obtain⟨NA,hNA⟩:=ex (fA (F.num (-(lo*hi)/(hi-lo))));rw[hNA] at cadd cnum;generalize (pa.f.scale (hi/(hi-lo))).add (F.num (-(lo*hi)/(hi-lo)))=TF at *;obtain⟨W4,hW4⟩:=ex (zG (AC/(hi-lo)));rw[hW4] at cdv;generalize AC/(hi-lo)=W5 at *;generalize zG (hi/(hi-lo))=W1 at *;generalize zG (-(lo*hi)/(hi-lo))=W2 at *;generalize zG (hi-lo)=W3 at *;generalize aX lo hi=sb at *;clear hx hy hv1 hv2 a1 a2 a3 a4 a5 a6 w1 w2 wn hSA hNA hu hne f1 f2 fd conn coff csu k0 k1 k2;cbv;refine vD 17 [(16,24)] (by cbv) (by cbv) (by cbv) ?_;cbv;refine⟨zC om om,y6 g1 (by exact om) y0 xD ?_⟩;cbv;refine⟨zC om om,y6 g2 (by exact om) y0 xD ?_⟩;cbv;refine cA cln ?_;cbv;refine zM 6 (by cbv) ?_;cbv;refine dA csc ?_;cbv;refine dA cnum ?_;cbv;refine dA cadd ?_;cbv;refine rN (σ:=Unit) (λ_=>⟨[(2,mlv ML0),(5,.ptr 5 0),(8,.ptr 8 0),(11,iV v),(15,.ptr 15 0),(22,.ptr 22 0),(23,.ptr 23 0)],
    [(5,.box [tsv FA.ts,bV FA.c.neg,nat FA.c.num,nat FA.c.den]),(8,.box [.nil,.ff,.nil,.nil]),(15,.box [bV W4.neg,nat W4.num,nat W4.den]),(22,.box (rwc ⟨13,j,b1,b2⟩)),(23,.box [tsv TA.ts,bV TA.c.neg,nat TA.c.num,nat TA.c.den])]⟩) (λ_=>True) (.refl _) (by cbv) ?_ ?_
   ·cbv
    repeat' first
     |exact trivial
     |(refine yP rfl okA csb rfl ?_;cbv)
     |(refine yP rfl okA cdv rfl ?_;cbv)
     |exact⟨(),trivial,wkY (by cbv;repeat' first|exact trivial|exact lR|exact zB hv|exact zK rfl|exact yX rfl|apply And.intro)⟩
     |apply And.intro
   {intro _ _;cbv;exact⟨(⟨13,j,b1,b2⟩,TF,W5,W4,TA),⟨g,hW4.symm,hTA.symm⟩,wkY (by cbv;repeat' first|exact trivial|exact lR|exact zB hv|exact zK rfl|exact yX rfl|apply And.intro)⟩}
 {obtain⟨row,g,q,r,a⟩:=y;obtain⟨y1,y2,y3⟩:=hy;dsimp only at y1 y2 y3;obtain⟨d1,d2⟩:=csu (row,g,q) y1;obtain⟨q1,q2,q3⟩:=k2 e0 (row,g,q) y1;dsimp only at d1 d2 q1 q2;rw[<-y2] at d2;rw[<-y3] at d1;rw[<-q1] at d1;rw[<-q2] at d2;subst q3;clear k0 k1 k2 a1 a2 a3 a4 a5 a6 csu;cbv;refine zM 8 (by cbv) ?_;cbv;refine dA d1 ?_;cbv;refine dA d2 ?_;cbv;exact rA}
abbrev oFL (o:Option (F×List (Row×Rat))):F×List (Row×Rat):=o.getD (F.zero,[])
structure BackOk (s:Scp) (f:F):Prop where
 vd:(fA f).valid s.q.g.vars=true
 sz:(fA f).sz (2^26)
 us:∀ (j:Nat) pa,s.q.g.us[j]?=some pa->fA pa.f=pa/\Cn pa.f.ts/\pa.f.fl (2^20) (2^30)
 st:∃ P:Nat->F×List (Row×Rat)->Prop,P s.q.g.us.length (f,[])/\(∀ j x,P j x->Cn x.1.ts/\(∃ k,x.1.fl k (2^30)/\1<=k/\k<=2^24)/\Mfit (2^30) x.2)/\∀ j x pa y,P (j+1) x->s.q.g.us[j]?=some pa->s.rep1 pa.f j x=some y->P j y
def Oa (s:Scp)(f:F)(hs:Usz s)(hz:s.q.sz (2^20))(hb:BackOk s f):zD 114 [sv s,fv f] (.tup [fv (oFL (s.back f)).1,mlv (mR (oFL (s.back f)).2),bV ((s.back f).isSome)]):=by
 refine sF Tryz.f114 ?_;obtain⟨v1,v2,v3,v4,v5⟩:=nX hs.v;have cv:=oK s.q (hz.mono (by decide));have cvr:=oO s.q.g (hz.g.mono (by decide));have hgv:s.q.g.valid=true:=by have:=hs.v;unfold Qry.valid at this;grind
 rw[hs.v] at cv;rw[if_pos hgv] at cvr;have c7:=Dv (fA f) s.q.g.vars (hb.sz.mono (by decide));rw[hb.vd] at c7;obtain⟨P,p1,p2,p3⟩:=hb.st;have cr:∀ (j:Nat) pa x,s.q.g.us[j]?=some pa->P (j+1) x->zD 174 [sv s,fv x.1,mlv (mR x.2),iV j] (.tup [fv (oFL (s.rep1 pa.f j x)).1,mlv (mR (oFL (s.rep1 pa.f j x)).2),bV ((s.rep1 pa.f j x).isSome)]):=λj pa x hp hx=>by obtain⟨a1,a2,a3⟩:=hb.us j pa hp;obtain⟨b1,⟨k,b2,b3,b4⟩,b5⟩:=p2 _ x hx;exact EC s j pa x.1 x.2 hs hp a1 a2 a3 (by decide) b1 b2 b3 b4 b5
 obtain⟨RP,hRP⟩:∃ RP:F->Nat->F×List (Row×Rat)->Option (F×List (Row×Rat)),s.rep1=RP:=⟨_,rfl⟩;rw[hRP] at cr p3;have hBs:∀ (j:Nat) pa x,s.q.g.us[j]?=some pa->s.backG (j+1) x=match RP pa.f j x with
   |none=>none| some y=>s.backG j y:=λj pa x h=>by
  rw[<-hRP,show s.backG (j+1) x=(match s.q.g.us[j]? with
   |none=>none
   |some p=>match s.rep1 p.f j x with
    |none=>none| some y=>s.backG j y) from rfl,h]
 have hB0:∀ x,s.backG 0 x=some x:=λ_=>rfl;obtain⟨O,hO⟩:=ex (s.back f);have hO':s.backG s.q.g.us.length (f,[])=O:=hO;obtain⟨BG,hBG⟩:∃ BG:Nat->F×List (Row×Rat)->Option (F×List (Row×Rat)),s.backG=BG:=⟨_,rfl⟩;rw[hO];rw[hBG] at hBs hB0 hO';obtain⟨FV,hFV⟩:=ex (fA (oFL O).1);obtain⟨ML,hML⟩:=ex (mR (oFL O).2);obtain⟨OB,hOB⟩:=ex O.isSome;simp only[fv] at *;rw[hFV,hML,hOB];have o0:O=none->FV=⟨[],R0⟩/\ML=[]/\OB=false:=λh=>by rw[<-hFV,<-hML,<-hOB,h];exact⟨uV,rfl,rfl⟩
 have o1:∀ y,O=some y->FV=fA y.1/\ML=mR y.2/\OB=true:=λy h=>by grind
 generalize s.q.g.vars=N at *;obtain⟨FA,hFA⟩:=ex (fA f);rw[hFA] at c7 ⊢;obtain⟨⟨⟨gn,us,os⟩,⟨lo,hi',rows⟩,⟨ts',c1',c2',c3'⟩⟩,path,L⟩:=s;dsimp only at *;clear hO hBG hRP hFV hML hOB hgv hs hz hb;cbv;refine zM 13 (by cbv) ?_;cbv;refine dA cv ?_;cbv;refine rR rfl ?_;cbv;refine dA cvr ?_;cbv;refine dA c7 ?_;cbv;refine dY rfl ?_;cbv;refine⟨zC (by rw[zA];exact om) (by rw[zA];exact om),?_⟩;refine zW (σ:=Nat×(F×List (Row×Rat))×A×List Mult) (λst=>⟨[(2,.ptr 2 0),(3,.ptr 3 0),(4,.ptr 4 0),(7,mlv st.2.2.2),(9,iV (((st.1:Nat):Int)-1))],[(2,.box (sc ⟨⟨⟨gn,us,os⟩,⟨lo,hi',rows⟩,⟨ts',c1',c2',c3'⟩⟩,path,L⟩)),(3,.box [tsv st.2.2.1.ts,bV st.2.2.1.c.neg,nat st.2.2.1.c.num,nat st.2.2.1.c.den]),(4,.box [.nil,.ff,.nil,.nil])]⟩)
  (λst=>st.1<=us.length/\P st.1 st.2.1/\BG st.1 st.2.1=O/\st.2.2.1=fA st.2.1.1/\st.2.2.2=mR st.2.1.2) (λst=>st.1) (us.length,(f,[]),FA,[]) ⟨yD _,p1,hO',hFA.symm,rfl⟩ (.le (by cbv;repeat' first|exact trivial|exact lR|exact zB (by rw[zA])|exact yX rfl|apply And.intro) (by cbv;repeat' first|exact trivial|exact lR|apply And.intro) rfl) ?_
 clear hO' p1 cv cvr c7 hFA;intro st hst;obtain⟨i,x,a,m⟩:=st;obtain⟨g1,g2,g3,g4,g5⟩:=hst;dsimp only at g1 g2 g3 g4 g5;cbv;refine zE (λh5=>?_) (λh5=>?_)
 ·obtain⟨j,rfl⟩:∃ j,i=j+1:=⟨i-1,by exact om⟩;obtain⟨pa,hpa⟩:=zO (l:=us) (i:=j) oM;have c:=cr j pa x hpa g2;have n3:=p3 j x pa;rw[hBs j pa x hpa] at g3;rw[<-g4,<-g5] at c;rcases hr:RP pa.f j x with _|y
  ·rw[hr] at g3 c;obtain⟨q1,q2,q3⟩:=o0 g3.symm;subst q1 q2 q3;clear cr hBs n3;generalize fA (oFL none).1=W at *;generalize mR (oFL none).2=W2 at *;cbv;refine yP rfl (by repeat' first|exact trivial|exact lR|exact zB (by exact om)|apply And.intro) c rfl ?_;cbv
   (try (refine Yc rfl ?_;cbv))
   exact rA
  ·rw[hr] at g3 c;have n4:=n3 y g2 hpa hr;obtain⟨W,hW⟩:=ex (fA (oFL (some y)).1);obtain⟨W2,hW2⟩:=ex (mR (oFL (some y)).2);rw[hW,hW2] at c;clear cr hBs n3;cbv;refine yP rfl (by repeat' first|exact trivial|exact lR|exact zB (by exact om)|apply And.intro) c rfl ?_;cbv
   (try (refine dY rfl ?_;cbv))
   exact⟨zC om om,(j,y,W,W2),⟨(show j<=_ by omega),n4,g3,hW.symm,hW2.symm⟩,(show j<j+1 by omega),.le (by cbv;repeat' first|exact trivial|exact lR|exact zB om|apply And.intro) (by cbv;repeat' first|exact trivial|exact lR|apply And.intro) rfl⟩
 ·(have hi:i=0:=by exact om);subst hi
  rw[hB0] at g3;obtain⟨q1,q2,q3⟩:=o1 x g3.symm;rw[<-g4] at q1;rw[<-g5] at q2;subst q1 q2 q3;cbv;exact rA
abbrev oRL (o:Option (Rat×List (Row×Rat))):PV:=.tup [rv (zG (oVq o)),mlv (mR (oL o)),bV o.isSome]
structure LowOk (s:Scp) (f:F):Prop where
 bk:BackOk s f
 bx:∀ g,s.back f=some g->BoxOk s g.1/\(s.box g.1).isSome=true/\(∀ t,t∈g.2->Fits (2^28) t.2)/\g.2.length<=2^36/\(∀ t,t∈oL (s.box g.1)->Fits (2^23) t.2)/\(oL (s.box g.1)).length<=32
def EM (s:Scp)(f:F)(hs:Usz s)(hz:s.q.sz (2^20))(hp:Dsz (2^20) s.path)(h:LowOk s f):zD 47 [sv s,fv f] (oRL (s.low f)):=by
 refine sF Tryz.f47 ?_;have cb:=Oa s f hs hz h.bk;have c1:=s32 1 (by decide) (by decide);rw[show (((1:Int):Rat))=(1:Rat) by rfl] at c1;have hlow:s.low f=(s.back f).map λg=>(oVq (s.box g.1),xU g.2 (oL (s.box g.1)) 1):=rfl;obtain⟨FA,hFA⟩:=ex (fA f);simp only[fv] at *;unfold oRL;rw[hFA] at cb ⊢;have hbx:=h.bx;rcases hbk:s.back f with _|g
 ·(rw[hbk] at cb hlow;obtain⟨V,hV⟩:=ex (zG (oVq (s.low f)));obtain⟨M,hM⟩:=ex (mR (oL (s.low f)));obtain⟨B,hB⟩:=ex ((s.low f).isSome);have q1:V=R0:=by rw[<-hV,hlow];exact u9);have q2:M=[]:=by rw[<-hM,hlow];rfl
  (have q3:B=false:=by grind);rw[hV,hM,hB]
  subst q1 q2 q3;generalize fA (oFL none).1=W at *;generalize mR (oFL none).2=W2 at *;clear hlow hbx hs hz hp h hbk hV hM hB hFA;cbv;refine cA cb ?_;cbv
  (try (refine Yc rfl ?_;cbv))
  exact rA
 ·(obtain⟨b1,b2,b3,b4,b5,b6⟩:=hbx g hbk;have cx:=Ld s g.1 hs hz hp b1;have cm:=G0 g.2 (oL (s.box g.1)) (zG 1) b3 b4 b5 b6 ((zT fits_one).mono (by decide));rw[zV] at cm;rw[b2] at cx;rw[hbk] at cb hlow;have e1:oVq (s.low f)=oVq (s.box g.1):=by rw[hlow];rfl);have e2:oL (s.low f)=xU g.2 (oL (s.box g.1)) 1:=by rw[hlow];rfl
  (have e3:(s.low f).isSome=true:=by grind);rw[e1,e2,e3]
  simp only[fv] at cx;obtain⟨W,hW⟩:=ex (fA g.1);have hW':fA (oFL (some g)).1=W:=hW;rw[hW] at cx;rw[hW'] at cb;obtain⟨W2,hW2⟩:=ex (mR g.2);have hW2':mR (oFL (some g)).2=W2:=hW2;rw[hW2] at cm;rw[hW2'] at cb;generalize mR (xU g.2 (oL (s.box g.1)) 1)=W3 at *;generalize mR (oL (s.box g.1))=W4 at *;generalize zG (oVq (s.box g.1))=W5 at *;generalize zG 1=R1 at *;clear hlow hbx hs hz hp h hbk b1 b2 b3 b4 b5 b6 hW hW' hW2 hW2' e1 e2 e3 hFA;cbv;refine cA cb ?_;cbv
  (try (refine dY rfl ?_;cbv))
  refine cA cx ?_;cbv;refine zM 5 (by cbv) ?_;cbv;refine dA c1 ?_;cbv;refine dA cm ?_;cbv;exact rA
structure DomOk (s:Scp) (f:F):Prop where
 bx:BoxOk s f
 lw:LowOk s f
 v:Fits (2^30) (oVq (s.box f))/\Fits (2^30) (oVq (s.low f))
def La (n : Nat) (s : Scp) (f : F) (hs : Usz s) (hz : s.q.sz (2^20)) (hp : Dsz (2^20) s.path) (h : DomOk s f) : zD 12 [iV n, sv s, fv f] (oRL (s.dom n f)) := by
  refine sF Tryz.f12 ?_
  have cx := Ld s f hs hz hp h.bx
  have cl := EM s f hs hz hp h.lw
  have cc := s42 (zG (oVq (s.box f))) (zG (oVq (s.low f))) ((zT h.v.1).mono (by decide)) ((zT h.v.2).mono (by decide))
  simp only [zV] at cc
  have hd : s.dom n f = if n = 0 ∨ (n = 2 ∧ (s.box f).isSome = true ∧ ((s.low f).isSome = false ∨ 0 ≤ wK (oVq (s.box f)) (oVq (s.low f)))) then s.box f else s.low f := rfl
  generalize wK (oVq (s.box f)) (oVq (s.low f)) = cm at *
  unfold oRL at *
  generalize s.box f = o1 at *
  generalize s.low f = o2 at *
  generalize s.dom n f = o at *
  obtain ⟨X1, hX1⟩ := ex (zG (oVq o1))
  obtain ⟨M1, hM1⟩ := ex (mR (oL o1))
  obtain ⟨B1, hB1⟩ := ex o1.isSome
  obtain ⟨X2, hX2⟩ := ex (zG (oVq o2))
  obtain ⟨M2, hM2⟩ := ex (mR (oL o2))
  obtain ⟨B2, hB2⟩ := ex o2.isSome
  obtain ⟨V, hV⟩ := ex (zG (oVq o))
  obtain ⟨M, hM⟩ := ex (mR (oL o))
  obtain ⟨B, hB⟩ := ex o.isSome
  rw [hB1, hB2] at hd
  have d1 : ((n : Int) = 0 ∨ ((n : Int) = 2 ∧ B1 = true ∧ (B2 = false ∨ 0 ≤ cm))) → V = X1 ∧ M = M1 ∧ B = B1 := fun g => by
    grind
  have d2 : ¬ ((n : Int) = 0 ∨ ((n : Int) = 2 ∧ B1 = true ∧ (B2 = false ∨ 0 ≤ cm))) → V = X2 ∧ M = M2 ∧ B = B2 := fun g => by
    grind
  rw [hX1, hM1, hB1] at cx
  rw [hX2, hM2, hB2] at cl
  rw [hX1, hX2] at cc
  rw [hV, hM, hB]
  clear hX1 hX2 hM1 hM2 hB1 hB2 hV hM hB hd hs hz hp h
  obtain ⟨FA, hFA⟩ := ex (fA f)
  simp only [fv] at *
  rw [hFA] at cx cl ⊢
  clear hFA
  cbv
  refine cA cx ?_
  cbv
  refine cA cl ?_
  cbv
  refine HU ?_
  cbv
  repeat' first
    | (refine zQ (fun e => ?_) (fun e => ?_) <;> cbv)
    | (refine yA (fun e => ?_) (fun e => ?_) <;> cbv)
    | (refine zE (fun e => ?_) (fun e => ?_) <;> cbv)
    | (refine zP (fun e => ?_) (fun e => ?_) <;> cbv)
    | (refine yP rfl okA cc rfl ?_; cbv)
    | (have g : ((n : Int) = 0 ∨ ((n : Int) = 2 ∧ B1 = true ∧ (B2 = false ∨ 0 ≤ cm))) := by ((try dsimp only [zY] at *); grind)
       obtain ⟨q1, q2, q3⟩ := d1 g
       subst q1 q2 q3
       (refine rC ?_; cbv)
       exact okA)
    | (have g : ¬ ((n : Int) = 0 ∨ ((n : Int) = 2 ∧ B1 = true ∧ (B2 = false ∨ 0 ≤ cm))) := by ((try dsimp only [zY] at *); grind)
       obtain ⟨q1, q2, q3⟩ := d2 g
       subst q1 q2 q3
       (refine rC ?_; cbv)
       exact okA)
def ED (x:R)(up:Bool)(hx:x.sz (2^32)):zD 98 [rv x,iV 0,bV up] (rv (zG x.q)):=by
 refine sF Tryz.f98 ?_;have c:=s47 x hx;generalize zG x.q=W at *;clear hx;cbv
 (try (refine wZ rfl ?_;cbv))
 refine cA c ?_;cbv;exact rA
def EA (s:Scp)(m:Lem)(hs:Lsz (2^20) s.lems)(hv:m.v.sz (2^31)):zD 99 [sv s,lv' m] (bV (s.strg m.u m.up m.v.q)):=by
 refine sF Tryz.f99 ?_;have cb:=fN s m.u hs;have hll:=hs.len;have hss:=hs.sz;have hv1:=λh=>ZJ (s:=s) (j:=m.u) h;have hv2:=λh=>Xi (s:=s) (j:=m.u) h;have cc:∀ y:R,y.sz (2^20)->zD 48 [rv m.v,rv y] (iV (wK m.v.q y.q)):=λy h=>s42 m.v y hv (h.mono (by decide));obtain⟨r,hr⟩:=ex (s.strg m.u m.up m.v.q);have h1:m.up=true->r=decide ((s.best m.u).2=0\/wK m.v.q (s.vHi m.u)<0):=λh=>by rw[<-hr];unfold Scp.strg;rw[if_pos h]
 have h2:m.up=false->r=decide ((s.best m.u).1=0\/0<wK m.v.q (s.vLo m.u)):=λh=>by rw[<-hr];unfold Scp.strg;rw[if_neg (by rw[h];decide)]
 rw[hr];obtain⟨u,up,v,pf⟩:=m;dsimp only at *;generalize s.best u=B at *;generalize s.vLo u=lo at *;generalize s.vHi u=hi at *;obtain⟨b1,b2⟩:=B;obtain⟨⟨⟨gn,us,os⟩,⟨lo',hi',rows⟩,⟨ts',c1',c2',c3'⟩⟩,path,L⟩:=s;dsimp only at *;clear hr hs hv;cbv;refine cA cb ?_;cbv;refine zP (λe=>?_) (λe=>?_)
 ·have h1':=h1 e;cbv;refine zM 15 (by cbv) ?_;cbv;refine zQ (λx=>?_) (λx=>?_)
  ·cbv
   (refine rC ?_;cbv)
   exact yH (by rw[h1'];exact decide_eq_true (.inl (by exact om)))
  (have y2:b2≠0:=by exact om);obtain⟨m2,g2,hy⟩:=hv2 y2
  have z2:=hss m2 (zX g2);have l2:=(xP.1 g2).1;have c:=cc m2.v z2;rw[<-hy] at c;generalize wK v.q hi=cm at *;cbv;refine⟨zC om om,y6 g2 (by exact om) y0 xD ?_⟩;cbv;refine dA c ?_;cbv
  (refine rC ?_;cbv)
  exact z4 (by rw[h1',decide_eq_decide];exact⟨.inr,λh=>h.elim (λh=>absurd h y2) id⟩)
 ·have h1':=h2 e;cbv;refine zM 15 (by cbv) ?_;cbv;refine zQ (λx=>?_) (λx=>?_)
  ·cbv
   (refine rC ?_;cbv)
   exact yH (by rw[h1'];exact decide_eq_true (.inl (by exact om)))
  (have y2:b1≠0:=by exact om);obtain⟨m2,g2,hy⟩:=hv1 y2
  have z2:=hss m2 (zX g2);have l2:=(xP.1 g2).1;have c:=cc m2.v z2;rw[<-hy] at c;generalize wK v.q lo=cm at *;cbv;refine⟨zC om om,y6 g2 (by exact om) y0 xD ?_⟩;cbv;refine dA c ?_;cbv
  (refine rC ?_;cbv)
  exact z4 (by rw[h1',decide_eq_decide];exact⟨.inr,λh=>h.elim (λh=>absurd h y2) id⟩)
abbrev kfO (s:Scp) (kind unit:Int):List (Nat×Obj'):=[(1000000,.box [iV kind]),(1000001,.box [iV unit]),(1000002,.box (sc s))]
abbrev Nb (s:Scp) (kind unit:Int) (d:Dec):Bool:=decide (d.k=kind)&&(decide (d.i=unit)&&d.fits s.q)
def EU (s:Scp)(kind unit:Int)(d:Dec)(hs:Psz s)(hd:d.x.sz (2^32)):Sound 121 [dv d,.ptr 1000000 0,.ptr 1000001 0,.ptr 1000002 0] (kfO s kind unit) [] (bV (Nb s kind unit d)) (kfO s kind unit) []:=by
 refine sF Tryz.f121 ?_;have cv:=GW s.q d (hs.q.mono (by decide)) (hd.mono (by decide));rw[hs.v,yN] at cv;obtain⟨r,hr⟩:=ex (Nb s kind unit d);have hr':(decide (d.k=kind)&&(decide (d.i=unit)&&d.fits s.q))=r:=hr;rw[hr];generalize d.fits s.q=ft at *;clear hs hr hd;cbv;refine zQ (λe1=>?_) (λe1=>?_)
 rotate_left
 {rw[decide_eq_false e1,kK] at hr';subst hr';cbv;refine pN (.refl _) rfl (by repeat' first|exact trivial|exact rfl|apply And.intro) (by rfl) (by repeat' first|exact trivial|exact rfl|omega|apply And.intro) ?_;cbv;exact zK rfl};rw[decide_eq_true e1,yN] at hr';cbv;refine zQ (λe2=>?_) (λe2=>?_)
 rotate_left
 {rw[decide_eq_false e2,kK] at hr';subst hr';cbv;refine pN (.refl _) rfl (by repeat' first|exact trivial|exact rfl|apply And.intro) (by rfl) (by repeat' first|exact trivial|exact rfl|omega|apply And.intro) ?_;cbv;exact zK rfl};rw[decide_eq_true e2,yN] at hr';cbv;refine cA cv ?_;cbv;refine pN (.refl _) rfl (by repeat' first|exact trivial|exact rfl|apply And.intro) (by rfl) (by repeat' first|exact trivial|exact rfl|omega|apply And.intro) ?_;cbv;exact z4 hr'
abbrev FJ:PV:=.fn 121 [.ptr 1000000 0,.ptr 1000001 0,.ptr 1000002 0]
def EV (s:Scp)(kind unit:Int)(hs:Psz s):Sound 120 [dlv s.path,FJ] (kfO s kind unit) [] (iV (s.fst kind unit)) (kfO s kind unit) []:=by
 refine aW Ae rfl rfl rfl rfl rfl ?_;have cp:=λd (h:d∈s.path)=>EU s kind unit d hs (hs.p.sz d h);have hpl:=hs.p.len;obtain⟨r,hr⟩:=ex (s.fst kind unit);obtain⟨P,hP⟩:∃ P:Dec->Bool,Nb s kind unit=P:=⟨_,rfl⟩;have hr0:r=Zp P 0 (s.path.drop 0):=by rw[Z7,<-hP];exact hr.symm
 rw[hr];rw[hP] at cp;obtain⟨X,hX⟩:∃ X:Int->List Dec->Int,∀ i l,X i l=Zp P i l:=⟨_,λ_ _=>rfl⟩;have hXn:∀ i,X i []=-1:=λi=>by rw[hX];rfl
 have hXc:∀ i d r,X i (d::r)=if P d=true then i else X (i+1) r:=λi d r=>by grind [Z8]
 rw[<-hX] at hr0;clear hP hr hs hX;cbv;refine zW (σ:=Nat) (λi=>⟨[(0,dlv s.path),(1,FJ),(7,iV s.path.length),(8,iV i)],kfO s kind unit⟩) (λi=>i<=s.path.length/\r=X i (s.path.drop i)) (λi=>s.path.length-i) 0 ⟨by omega,hr0⟩ (.le ?_ ?_ rfl) ?_;{cbv;repeat' first|exact trivial|exact lR|exact rfl|exact zB (by rw[zA])|apply And.intro};{cbv;repeat' first|exact trivial|exact lR|apply And.intro};clear hr0;intro i hi;obtain⟨h1,h2⟩:=hi;cbv;refine zE (λh5=>?_) (λh5=>?_)
 ·(have hlt:i<s.path.length:=by exact om);obtain⟨d,hd⟩:=zO hlt
  have cv:=cp d (zX hd);rw[zU hd,hXc] at h2;generalize P d=p at *;cbv;refine yB hd uW qN ?_;cbv;refine bS id (.refl _) rfl (by repeat' first|exact trivial|exact lR|exact zB rfl|exact rfl|apply And.intro) cv (by repeat' first|exact trivial|exact lR|exact zB rfl|exact rfl|apply And.intro) rfl rfl rfl rfl rfl rfl rfl rfl ?_;cbv;refine zP (λe=>?_) (λe=>?_);{rw[if_pos e] at h2;cbv;refine pN (.refl _) rfl (by repeat' first|exact trivial|exact rfl|apply And.intro) (by rfl) (by repeat' first|exact trivial|exact rfl|omega|apply And.intro) ?_;cbv;exact zB h2.symm};{rw[if_neg (by grind)] at h2;cbv;exact⟨zC om om,i+1,⟨om,h2⟩,om,.le (by cbv;repeat' first|exact trivial|exact lR|exact rfl|exact zB om|apply And.intro) (by cbv;repeat' first|exact trivial|exact lR|apply And.intro) rfl⟩}
 ·(have he:i=s.path.length:=by exact om);rw[he,wD,hXn] at h2
  cbv;refine pN (.refl _) rfl (by repeat' first|exact trivial|exact rfl|apply And.intro) (by rfl) (by repeat' first|exact trivial|exact rfl|omega|apply And.intro) ?_;cbv;exact zB h2.symm
def N9 (s:Scp)(kind unit:Int)(hs:Psz s):zD 55 [sv s,iV kind,iV unit] (iV (s.fst kind unit)):=by refine sF Tryz.f55 ?_;have ci:=EV s kind unit hs;clear hs;cbv;refine bS (λn=>match nqb n 1000000 with|true=>4|false=>(match nqb n 1000001 with|true=>5|false=>3)) (.refl _) rfl (by repeat' first|exact trivial|exact lR|exact zB rfl|exact rfl|apply And.intro) ci (by repeat' first|exact trivial|exact lR|exact zB rfl|exact rfl|apply And.intro) rfl rfl rfl rfl rfl rfl rfl rfl ?_;cbv;exact rA
abbrev mpO (ks:List Int):Obj':=.mp 119 (λ_=>ks)
def Gc {z:Int}(h1:-9223372036854775808<=z)(h2:z<=9223372036854775807):KeyOk (λ_=>z):=⟨by simp only[Lit.wf,yK,decide_eq_true_eq];exact⟨h1,h2⟩⟩
abbrev uO (s:Scp) (st:Ust):List (Nat×Obj'):=[(1000000,.box (sc s)),(1000001,.box [.mpv 1000005]),(1000002,.box [.mpv 1000004]),(1000003,.box [.fn 54 [.ptr 1000006 0,.ptr 1000000 0,.ptr 1000007 0]]),
 (1000004,mpO st.1),(1000005,mpO st.2),(1000006,.box [.fn 53 [.ptr 1000002 0]]),(1000007,.box [.fn 52 [.ptr 1000000 0,.ptr 1000001 0,.ptr 1000003 0]])]
def EY (d:Int)(D:List Int)(h1:-9223372036854775808<=d)(h2:d<=9223372036854775807)(hD:D.length<2^39):Sound 53 [iV d,.ptr 1000002 0] [(1000002,.box [.mpv 1000004]),(1000004,mpO D)] [] (.tup []) [(1000002,.box [.mpv 1000004]),(1000004,mpO (bF d D))] []:=by
 refine sF Tryz.f53 ?_;obtain⟨R,hR⟩:=ex (bF d D);have hR':R=if 0<=d then d::D else D:=hR.symm
 rw[hR];clear hR;cbv;refine zE (λe=>?_) (λe=>?_);{rw[if_pos e] at hR';subst hR';cbv;refine⟨Gc h1 h2,⟨by omega⟩,?_⟩;cbv;refine pN (.refl _) rfl (by repeat' first|exact trivial|exact rfl|apply And.intro) (by rfl) (by repeat' first|exact trivial|exact rfl|omega|apply And.intro) ?_;cbv};{rw[if_neg e] at hR';subst hR';cbv;refine pN (.refl _) rfl (by repeat' first|exact trivial|exact rfl|apply And.intro) (by rfl) (by repeat' first|exact trivial|exact rfl|omega|apply And.intro) ?_;cbv}
abbrev Cp (s:Scp) (l:List Mult) (a b:Ust):Prop:=Sound 54 [mlv l,.ptr 1000006 0,.ptr 1000000 0,.ptr 1000007 0] (uO s a) [] (.tup []) (uO s b) []
def EN (s:Scp)(U:List Mult->Ust->Ust)(n:Int)(st:Ust)(h1:-9223372036854775808<=n)(h2:n<=9223372036854775807)(hM:st.2.length<2^39) (cU:0<=n->n<s.lems.length->n∉st.2->Cp s (s.pfn n) (st.1,n::st.2) (U (s.pfn n) (st.1,n::st.2))):Sound 52 [iV n,.ptr 1000000 0,.ptr 1000001 0,.ptr 1000003 0] (uO s st) [] (.tup []) (uO s (dM s U n st)) []:=by
 refine sF Tryz.f52 ?_;obtain⟨R,hR⟩:=ex (dM s U n st);have hR':R=if 0<=n/\n<s.lems.length/\n∉st.2 then U (s.pfn n) (st.1,n::st.2) else st:=hR.symm
 rw[hR];clear hR;obtain⟨D,M⟩:=st;dsimp only at hR' cU hM;cbv;refine zQ (λe1=>?_) (λe1=>?_)
 rotate_left
 {rw[if_neg (λh=>e1 h.1)] at hR';subst hR';cbv;refine pN (.refl _) rfl (by repeat' first|exact trivial|exact rfl|apply And.intro) (by rfl) (by repeat' first|exact trivial|exact rfl|omega|apply And.intro) ?_;cbv};cbv;refine zQ (λe2=>?_) (λe2=>?_)
 rotate_left
 {rw[if_neg (λh=>e2 (by grind [zA]))] at hR';subst hR';cbv;refine pN (.refl _) rfl (by repeat' first|exact trivial|exact rfl|apply And.intro) (by rfl) (by repeat' first|exact trivial|exact rfl|omega|apply And.intro) ?_;cbv};rw[zA] at e2;cbv;refine⟨Gc h1 h2,?_⟩;cbv;refine zP (λe3=>?_) (λe3=>?_);{rw[if_neg (λh=>h.2.2 (of_decide_eq_true e3))] at hR';subst hR';cbv;refine pN (.refl _) rfl (by repeat' first|exact trivial|exact rfl|apply And.intro) (by rfl) (by repeat' first|exact trivial|exact rfl|omega|apply And.intro) ?_;cbv};have e3':n∉M:=of_decide_eq_false e3;rw[if_pos ⟨e1,e2,e3'⟩] at hR';have c:=cU e1 e2 e3';rw[<-hR'] at c;obtain⟨m,hm⟩:=zO (l:=s.lems) (i:=n.toNat) (by exact om);have hp:s.pfn n=m.pf:=by unfold Scp.pfn;rw[hm];rfl
 rw[hp] at c;obtain⟨D',M'⟩:=R;clear hR' cU hp;cbv;refine⟨Gc h1 h2,⟨by grind⟩,?_⟩;cbv;refine zM 7 (by cbv) ?_;cbv;refine y6 hm (by exact om) y0 xD ?_;cbv;refine bS id (.refl _) rfl (by repeat' first|exact trivial|exact lR|exact zB rfl|exact rfl|apply And.intro) c (by repeat' first|exact trivial|exact lR|exact zB rfl|exact rfl|apply And.intro) rfl rfl rfl rfl rfl rfl rfl rfl ?_;cbv;refine pN (.refl _) rfl (by repeat' first|exact trivial|exact rfl|apply And.intro) (by rfl) (by repeat' first|exact trivial|exact rfl|omega|apply And.intro) ?_;cbv
def Rsm (r:Row):Prop:=(-4611686018427387904<=r.i/\r.i<4611686018427387904)/\(-4611686018427387904<=r.lo/\r.lo<4611686018427387904)/\(-4611686018427387904<=r.hi/\r.hi<4611686018427387904)
def Zo {α:Type}(P:α->Bool):∀ l:List α,wH P l<=l.length
 |[]=>by show (-1:Int)<=((0:Nat):Int);decide| a::r=>by have:=Zo P r;have h:=aG P r;rw[show wH P (a::r)=if P a then 0 else if wH P r<0 then -1 else wH P r+1 from rfl,bK];omega
def RJ {s:Scp}{r:Row}(h:Rsm r)(hp:s.path.length<2^38):-9223372036854775808<=s.rowD r/\s.rowD r<=9223372036854775807:=by have h1:=aG (λd=>decide (d.k=1)&&(decide (d.i=r.i)&&d.fits s.q)) s.path;have h2:=aG (λd=>decide (d.k=2)&&(decide (d.i=r.i)&&d.fits s.q)) s.path;have g1:=Zo (λd=>decide (d.k=1)&&(decide (d.i=r.i)&&d.fits s.q)) s.path;have g2:=Zo (λd=>decide (d.k=2)&&(decide (d.i=r.i)&&d.fits s.q)) s.path;obtain⟨⟨a1,a2⟩,_⟩:=h;grind [Scp.rowD,Scp.fst]
def Ex (s : Scp) (U : List Mult → Ust → Ust) (l : List Mult) (st : Ust) (hs : Psz s) (hl : l.length < 2^38) (hr : ∀ m, m ∈ l → Rsm m.row) (Q : Nat → Ust → Prop) (h0 : Q 0 st)
    (hQ : ∀ i a, Q i a → a.1.length < 2^39 ∧ a.2.length < 2^39)
    (hS : ∀ i m a, l[i]? = some m → Q i a → ∀ n, (n = m.row.lo - 1 ∨ n = m.row.hi - 1) → Rsm m.row → ∀ b, (b = (bF (s.rowD m.row) a.1, a.2) ∨ b = dM s U (m.row.lo - 1) (bF (s.rowD m.row) a.1, a.2)) →
      Sound 52 [iV n, .ptr 1000000 0, .ptr 1000001 0, .ptr 1000003 0] (uO s b) [] (.tup []) (uO s (dM s U n b)) [])
    (hN : ∀ i m a, l[i]? = some m → Q i a → Q (i + 1) (dM s U (m.row.hi - 1) (dM s U (m.row.lo - 1) (bF (s.rowD m.row) a.1, a.2)))) :
    Cp s l st (ZK s U l st) := by
  refine sF Tryz.f54 ?_
  have hpl := hs.p.len
  have c1 := fun unit => N9 s 1 unit hs
  have c2 := fun unit => N9 s 2 unit hs
  have hrd : ∀ r, s.rowD r = if r.k = 4 then r.i else if (r.k = 7 ∨ r.k = 8) ∧ r.lo = 0 then s.fst 1 r.i else if (r.k = 9 ∨ r.k = 10) ∧ r.hi = 0 then s.fst 2 r.i else -1 := fun _ => rfl
  have hsm := fun r h => RJ (s := s) (r := r) h hpl
  obtain ⟨R, hR⟩ := ex (ZK s U l st)
  rw [hR]
  obtain ⟨X, hX⟩ : ∃ X : List Mult → Ust → Ust, ZK s U = X := ⟨_, rfl⟩
  obtain ⟨LS, hLS⟩ : ∃ LS : Int → Ust → Ust, dM s U = LS := ⟨_, rfl⟩
  have hXn : ∀ a, X [] a = a := fun a => by rw [← hX]; rfl
  have hXc : ∀ m r a, X (m :: r) a = X r (LS (m.row.hi - 1) (LS (m.row.lo - 1) (bF (s.rowD m.row) a.1, a.2))) := fun m r a => by rw [← hX, ← hLS]; rfl
  rw [hX] at hR
  rw [hLS] at hS hN
  clear hX hLS hs
  cbv
  refine zW (σ := Nat × List Int × List Int) (fun x => ⟨[(1, .ptr 1000006 0), (2, .ptr 1000000 0), (3, .ptr 1000007 0), (8, mlv l), (9, iV l.length), (10, iV x.1)], uO s (x.2.1, x.2.2)⟩)
    (fun x => x.1 ≤ l.length ∧ X (l.drop x.1) (x.2.1, x.2.2) = R ∧ Q x.1 (x.2.1, x.2.2)) (fun x => l.length - x.1) (0, st.1, st.2) ⟨yU _, hR, h0⟩ (.le (by cbv; repeat' first | exact trivial | exact lR | exact rfl | exact zB (by rw [zA]) | apply And.intro) (by cbv; repeat' first | exact trivial | exact lR | exact rfl | exact ⟨rfl⟩ | apply And.intro) rfl) ?_
  clear hR h0
  intro x hx
  obtain ⟨i, D, M⟩ := x
  obtain ⟨g1, g2, g3⟩ := hx
  dsimp only at g1 g2 g3
  cbv
  refine zE (fun h5 => ?_) (fun h5 => ?_)
  · have hlt : i < l.length := by exact om
    obtain ⟨m, hm⟩ := zO hlt
    rw [zU hm, hXc] at g2
    have hrm := hr m (zX hm)
    obtain ⟨q1, q2⟩ := hQ i (D, M) g3
    have cl := hS i m (D, M) hm g3
    have nx := hN i m (D, M) hm g3
    obtain ⟨⟨k, ri, lo, hi⟩, mc'⟩ := m
    dsimp only at g2 q1 q2 cl nx hrm
    have hd := hrd ⟨k, ri, lo, hi⟩
    have hds := hsm ⟨k, ri, lo, hi⟩ hrm
    generalize s.rowD ⟨k, ri, lo, hi⟩ = d at *
    obtain ⟨⟨r1, r2⟩, ⟨r3, r4⟩, ⟨r5, r6⟩⟩ := hrm
    dsimp only at hd r1 r2 r3 r4 r5 r6
    have cd := EY d D hds.1 hds.2 oM
    have d1 := c1 ri
    have d2 := c2 ri
    generalize s.fst 1 ri = f1 at *
    generalize s.fst 2 ri = f2 at *
    obtain ⟨D0, hD0⟩ := ex (bF d D)
    have hn1 : d = -1 → D = D0 := fun e => by rw [← hD0, e]; rfl
    rw [hD0] at cd cl nx g2
    obtain ⟨b1, hb1⟩ := ex (LS (lo - 1) (D0, M))
    have e1 := cl (lo - 1) (.inl rfl) ⟨⟨r1, r2⟩, ⟨r3, r4⟩, ⟨r5, r6⟩⟩ (D0, M) (.inl rfl)
    have e2 := cl (hi - 1) (.inr rfl) ⟨⟨r1, r2⟩, ⟨r3, r4⟩, ⟨r5, r6⟩⟩ b1 (.inr hb1.symm)
    rw [hb1] at e1 nx g2
    obtain ⟨b2, hb2⟩ := ex (LS (hi - 1) b1)
    rw [hb2] at e2 nx g2
    obtain ⟨D1, M1⟩ := b1
    obtain ⟨D2, M2⟩ := b2
    clear hS hN hQ hr hrd hsm hXn hXc c1 c2 cl hb1 hb2 hD0
    cbv
    refine yB hm wY xN ?_
    cbv
    refine gD (σ := Unit) (fun _ => ⟨[(1, .ptr 1000006 0), (2, .ptr 1000000 0), (3, .ptr 1000007 0), (7, .ptr 7 0), (8, mlv l), (9, iV l.length), (10, iV i)], uO s (D0, M) ++ [(7, .box [iV k, iV ri, iV lo, iV hi])]⟩) (fun _ => True) (fun e => ?_) (fun e => ?_) (fun _ _ => ?_)
    · rw [if_pos e] at hd
      subst hd
      cbv
      refine bS id (.refl _) rfl (by repeat' first | exact trivial | exact lR | exact zB rfl | exact rfl | apply And.intro) cd (by repeat' first | exact trivial | exact lR | exact zB rfl | exact rfl | apply And.intro) rfl rfl rfl rfl rfl rfl rfl rfl ?_
      cbv
      exact ⟨(), trivial, .le (by cbv; repeat' first | exact trivial | exact lR | exact rfl | exact zB om | apply And.intro) (by cbv; repeat' first | exact trivial | exact lR | exact zH rfl | exact rfl | exact ⟨rfl⟩ | apply And.intro) rfl⟩
    · rw [if_neg e] at hd
      cbv
      repeat' first
        | exact trivial
        | (exfalso; exact om)
        | (refine zQ (fun x => ?_) (fun x => ?_) <;> cbv)
        | (refine zE (fun x => ?_) (fun x => ?_) <;> cbv)
        | (have gk : (k = 7 ∨ k = 8) ∧ lo = 0 := by exact om
           rw [if_pos gk] at hd
           subst hd
           refine zM 5 (by cbv) ?_
           cbv
           refine dA d1 ?_
           cbv
           refine bS id (.refl _) rfl (by repeat' first | exact trivial | exact lR | exact zB rfl | exact rfl | apply And.intro) cd (by repeat' first | exact trivial | exact lR | exact zB rfl | exact rfl | apply And.intro) rfl rfl rfl rfl rfl rfl rfl rfl ?_
           cbv
           exact ⟨(), trivial, .le (by cbv; repeat' first | exact trivial | exact lR | exact rfl | exact zB om | apply And.intro) (by cbv; repeat' first | exact trivial | exact lR | exact zH rfl | exact rfl | exact ⟨rfl⟩ | apply And.intro) rfl⟩)
        | (have gk : ¬ ((k = 7 ∨ k = 8) ∧ lo = 0) := by exact om
           have gl : (k = 9 ∨ k = 10) ∧ hi = 0 := by exact om
           rw [if_neg gk, if_pos gl] at hd
           subst hd
           refine zM 5 (by cbv) ?_
           cbv
           refine dA d2 ?_
           cbv
           refine bS id (.refl _) rfl (by repeat' first | exact trivial | exact lR | exact zB rfl | exact rfl | apply And.intro) cd (by repeat' first | exact trivial | exact lR | exact zB rfl | exact rfl | apply And.intro) rfl rfl rfl rfl rfl rfl rfl rfl ?_
           cbv
           exact ⟨(), trivial, .le (by cbv; repeat' first | exact trivial | exact lR | exact rfl | exact zB om | apply And.intro) (by cbv; repeat' first | exact trivial | exact lR | exact zH rfl | exact rfl | exact ⟨rfl⟩ | apply And.intro) rfl⟩)
        | (have gk : ¬ ((k = 7 ∨ k = 8) ∧ lo = 0) := by exact om
           have gl : ¬ ((k = 9 ∨ k = 10) ∧ hi = 0) := by exact om
           rw [if_neg gk, if_neg gl] at hd
           have hN0 := hn1 hd
           exact ⟨(), trivial, .le (by cbv; repeat' first | exact trivial | exact lR | exact rfl | exact zB om | apply And.intro) (by cbv; repeat' first | exact trivial | exact lR | exact zH rfl | exact rfl | exact ⟨rfl⟩ | exact ⟨hN0⟩ | apply And.intro) rfl⟩)
    · cbv
      refine ⟨zC om om, ?_⟩
      cbv
      refine bS id (.refl _) rfl (by repeat' first | exact trivial | exact lR | exact zB rfl | exact rfl | apply And.intro) e1 (by repeat' first | exact trivial | exact lR | exact zB rfl | exact rfl | apply And.intro) rfl rfl rfl rfl rfl rfl rfl rfl ?_
      cbv
      refine ⟨zC om om, ?_⟩
      cbv
      refine bS id (.refl _) rfl (by repeat' first | exact trivial | exact lR | exact zB rfl | exact rfl | apply And.intro) e2 (by repeat' first | exact trivial | exact lR | exact zB rfl | exact rfl | apply And.intro) rfl rfl rfl rfl rfl rfl rfl rfl ?_
      cbv
      exact ⟨zC om om, (i + 1, D2, M2), ⟨om, g2, nx⟩, om, .le (by cbv; repeat' first | exact trivial | exact lR | exact rfl | exact zB om | apply And.intro) (by cbv; repeat' first | exact trivial | exact lR | exact zH rfl | exact rfl | exact ⟨rfl⟩ | apply And.intro) rfl⟩
  · have he : i = l.length := by exact om
    rw [he, wD, hXn] at g2
    subst g2
    cbv
    refine pN (.refl _) rfl (by repeat' first | exact trivial | exact rfl | apply And.intro) (by rfl) (by repeat' first | exact trivial | exact rfl | omega | apply And.intro) ?_
    cbv
structure UseOk (s:Scp) (l:List Mult) (st:Ust):Prop where
 len:l.length<2^38
 row:∀ m,m∈l->Rsm m.row
 wgt:wgt s st+l.length<2^39
 vol:vol s st<2^39
structure Lpf (s:Scp):Prop where
 len:∀ m,m∈s.lems->m.pf.length<2^38
 row:∀ m,m∈s.lems->∀ x,x∈m.pf->Rsm x.row
def PM (s:Scp)(U:List Mult->Ust->Ust)(f:Nat)(hs:Psz s)(hp:Lpf s)(hR:∀ l a,um s a.2<f->Run s l a (U l a))(hW:∀ l a,um s a.2<f->wgt s (U l a)<=wgt s a+l.length)(hV:∀ l a,um s a.2<f->vol s (U l a)=vol s a) (hC:∀ l st,um s st.2<f->UseOk s l st->Cp s l st (U l st)) (l:List Mult) (st:Ust) (hf:um s st.2<=f) (h:UseOk s l st):Cp s l st (ZK s U l st):=by
 have key:∀ i m (a:Ust),l[i]?=some m->(um s a.2<=f/\wgt s a+(l.length-i)<=wgt s st+l.length/\vol s a=vol s st)->∀ b,(b=(bF (s.rowD m.row) a.1,a.2)\/b=dM s U (m.row.lo-1) (bF (s.rowD m.row) a.1,a.2)) ->
   um s b.2<=f/\wgt s b+(l.length-(i+1))<=wgt s st+l.length/\vol s b=vol s st:=by
  (intro i m a hm hq b hb;obtain⟨q1,q2,q3⟩:=hq;have hi:i<l.length:=(xP.1 hm).1;have u1:um s ((bF (s.rowD m.row) a.1,a.2):Ust).2<=f:=q1;have w1:wgt s (bF (s.rowD m.row) a.1,a.2)<=wgt s a+1:=by have:=JP (s.rowD m.row) a.1;show (bF _ _).length+pot s a.2<=a.1.length+pot s a.2+1;omega);have o1:vol s (bF (s.rowD m.row) a.1,a.2)=vol s a:=rfl;rcases hb with rfl|rfl;{exact⟨u1,by omega,by omega⟩}
  {have w2:=Zg hW (n:=m.row.lo-1) u1;have o2:=Zh hV (n:=m.row.lo-1) u1;exact⟨Y1 hR u1,by omega,by omega⟩}
 refine Ex s U l st hs h.len h.row (λi a=>um s a.2<=f/\wgt s a+(l.length-i)<=wgt s st+l.length/\vol s a=vol s st) ⟨hf,by omega,rfl⟩ ?_ ?_ ?_;{intro i a hq;obtain⟨q1,q2,q3⟩:=hq;have hw:=h.wgt;have hv:=h.vol;have e1:wgt s a=a.1.length+pot s a.2:=rfl;have e2:vol s a=a.2.length+um s a.2:=rfl;exact⟨by omega,by omega⟩}
 ·(intro i m a hm hq n hn hr b hb;obtain⟨q1,q2,q3⟩:=key i m a hm hq b hb;obtain⟨_,⟨r1,r2⟩,⟨r3,r4⟩⟩:=hr;have hw:=h.wgt;have hv:=h.vol;have e2:vol s b=b.2.length+um s b.2:=rfl;refine EN s U n b (by rcases hn with rfl|rfl <;> omega) (by rcases hn with rfl|rfl <;> omega) oM (λg0 g1 g2=>?_);have hu:=U7 g0 g1 g2;have hpt:=Fc g0 g1 g2;obtain⟨x,hx⟩:=zO (l:=s.lems) (i:=n.toNat) oM;have hpn:s.pfn n=x.pf:=by unfold Scp.pfn;rw[hx];rfl);have hxm:=zX hx
  have e1:wgt s b=b.1.length+pot s b.2:=rfl;have e3:wgt s (b.1,n::b.2)=b.1.length+pot s (n::b.2):=rfl;have e4:vol s (b.1,n::b.2)=(n::b.2).length+um s (n::b.2):=rfl;rw[bK] at e4;exact hC _ _ (by show um s (n::b.2)<f;omega) ⟨by rw[hpn];exact hp.len x hxm,by rw[hpn];exact hp.row x hxm,by omega,by omega⟩
 {intro i m a hm hq;obtain⟨q1,q2,q3⟩:=key i m a hm hq _ (.inr rfl);have w2:=Zg hW (n:=m.row.hi-1) q1;have o2:=Zh hV (n:=m.row.hi-1) q1;exact⟨Y1 hR q1,by omega,by omega⟩}
def NU (s:Scp)(hs:Psz s)(hp:Lpf s):∀ (f:Nat) (l:List Mult) (st:Ust),um s st.2<=f->UseOk s l st->Cp s l st (s9 s f l st)
 |0,l,st,hf,h=>PM s (λ_ st=>st) 0 hs hp (λ_ _ h=>absurd h oM) (λ_ _ h=>absurd h oM) (λ_ _ h=>absurd h oM) (λ_ _ h=>absurd h oM) l st hf h| f+1,l,st,hf,h=>PM s (s9 s f) (f+1) hs hp (λl a h=>mT s f l a oM) (λl a h=>Xn s f l a oM) (λl a h=>Xo s f l a oM) (λl st h h'=>NU s hs hp f l st oM h') l st hf h
end Go.Proofs.YtaeaffgjdcigoaaGreat
