/- A part of the proof: RuI, SpV, UtB, RuJ, AlA, BrC, KpS, KpF, KcO, KpA. -/
import Derived.Test.YtaeaffgjdcigoaaGreatD30
import Derived.Test.YtaeaffgjdcigoaaGreatD28
import Derived.Test.YtaeaffgjdcigoaaGreatD27
import Derived.Test.YtaeaffgjdcigoaaGreatD22
import Derived.Test.YtaeaffgjdcigoaaGreatD29
import Derived.Test.YtaeaffgjdcigoaaGreatD26
import Derived.Maps.Own
import Derived.Lib.SlKeysI
import Derived.Maps.Range
import Derived.Test.YtaeaffgjdcigoaaGreatD41
import Derived.Test.YtaeaffgjdcigoaaGreatD23
set_option linter.all false
namespace Go.Proofs.YtaeaffgjdcigoaaGreat
open Go
set_option maxRecDepth 100000
set_option maxHeartbeats 4000000
structure AbvOk (s:Scp) (f:F):Prop where
 cn:Cn f.ts
 fl:f.fl (2^20) (2^30)
 v:∀ t,t∈f.ts->-4611686018427387904<=t.1/\t.1<4611686018427387904
 pre:∀ i l,s.aboveL (f.ts.take i) []=some l->(∀ t,t∈l->Fits (2^28) t.2)/\l.length<=2^36
 most:∀ t,t∈f.ts->∀ more,s.atMostM t.1=some more->(∀ x,x∈more->Fits (2^20) x.2)/\more.length<=32
 sum:∀ l,s.aboveL f.ts []=some l->SumOk s (mR l)
def Z9 {s:Scp}{t:Int×Rat}{more:List (Row×Rat)}(ht:(if 0<yB t.2 then some (s.atLeastM t.1) else s.atMostM t.1)=some more):∀ {ts:List (Int×Rat)} {l l':List (Row×Rat)},s.aboveL ts l=some l'->s.aboveL (ts++[t]) l=some (xS l' more (vG t.2))
 |[],l,l',h=>by cases h;rw[KP];unfold Scp.aboveL;rw[ht];rfl
 |x::r,l,l',h=>by
  rw[Wm];unfold Scp.aboveL at h ⊢;cases hx:(if 0<yB x.2 then some (s.atLeastM x.1) else s.atMostM x.1) with
  |none=>grind| some g =>
   rw[hx] at h;exact Z9 ht h
def GV (s:Scp)(v:Int):(∀ x,x∈s.atLeastM v->Fits (2^20) x.2)/\(s.atLeastM v).length<=32:=by unfold Scp.atLeastM;split <;> refine⟨λx hx=>?_,by simp⟩ <;> (obtain rfl:=jA.1 hx;exact fits_one.mono (by decide))
def Hv (s:Scp)(f:F)(hs:s.sz (2^20))(hn:0<=s.q.g.n)(hn2:s.q.g.n<=256)(hok:AbvOk s f):zD 202 [sv s,fv f] (.tup [rv (zI (((s.above f).map Prod.fst).getD 0)),mlv (mR (((s.above f).map Prod.snd).getD [])),bV ((s.above f).isSome)]):=by
 refine sF Tryz.f202 ?_;have cam:∀ t,t∈f.ts->zD 252 [sv s,iV t.1] (.tup [mlv (mR ((s.atMostM t.1).getD [])),bV ((s.atMostM t.1).isSome)]):=λt ht=>Rn s t.1 hs.lems (hok.v t ht).1 (hok.v t ht).2 hn hn2;have cal:∀ t,t∈f.ts->zD 253 [sv s,iV t.1] (mlv (mR (s.atLeastM t.1))):=λt ht=>Ro s t.1 (hok.v t ht).1 (hok.v t ht).2 hn hn2;have csg:∀ t,t∈f.ts->zD 30 [rv (zI t.2)] (iV (yB t.2)):=λt ht=>by have:=s35 (zI t.2) (xL (zU (hok.fl.t t ht)).n (by decide));grind [z9]
 have cmg:∀ t,t∈f.ts->∀ a b,(∀ t,t∈a->Fits (2^28) t.2)->a.length<=2^36->(∀ t,t∈b->Fits (2^20) t.2)->b.length<=32->zD 115 [mlv (mR a),mlv (mR b),.agg [bV false,nat (zI t.2).num,nat (zI t.2).den]] (mlv (mR (xS a b (vG t.2)))):=λt ht a b h1 h2 h3 h4=>by
  (have:=Hu a b ⟨false,(zI t.2).num,(zI t.2).den⟩ h1 h2 (λt ht=>(h3 t ht).mono (by decide)) h4 (by rw[aN];exact zU (jJ (hok.fl.t t ht)));have e:(⟨false,(zI t.2).num,(zI t.2).den⟩:R).q=vG t.2:=by rw[aN,z9]);simp_all
 have cfin:∀ l,s.aboveL f.ts []=some l->zD 166 [sv s,mlv (mR l)] (.tup [fv (s.sum (mR l)).2,iV ((s.sum (mR l)).1)])/\zD 164 [fv f,fv (s.sum (mR l)).2] (fv (f.sub (s.sum (mR l)).2)):=λl hl =>
  ⟨Ug s (mR l) hs (hok.sum l hl),ZP hok.cn (Scp.sum_can s _) hok.fl (Scp.sum_fl' (hok.sum l hl)) (by decide) (by decide) (by decide) (by decide)⟩
 have hab:s.above f=(s.aboveL f.ts []).map λl=>((f.sub (s.sum (mR l)).2).c,l):=rfl;rw[hab];obtain⟨o,ho⟩:=ex (s.aboveL f.ts []);rw[ho] at cfin ⊢;obtain⟨AL,hAL⟩:=ex s.aboveL;have hTn:∀ l,AL [] l=some l:=λl=>by rw[<-hAL];rfl
 have hTc:∀ t r l,AL (t::r) l=match (if 0<yB t.2 then some (s.atLeastM t.1) else s.atMostM t.1) with
  |none=>none| some more=>AL r (xS l more (vG t.2)):=λt r l=>by rw[<-hAL];rfl
 obtain⟨PR,hPR⟩:∃ PR:Nat->List (Row×Rat)->Prop,∀ i l,PR i l=(s.aboveL (f.ts.take i) []=some l):=⟨_,λ_ _=>rfl⟩;have hPRs:∀ i t more l,f.ts[i]?=some t->(if 0<yB t.2 then some (s.atLeastM t.1) else s.atMostM t.1)=some more->PR i l->PR (i+1) (xS l more (vG t.2)):=λi t more l h1 h2 h3=>by rw[hPR] at h3 ⊢;rw[YL h1];exact Z9 h2 h3
 have hPR0:PR 0 []:=by rw[hPR];rfl
 have hpre:∀ i l,PR i l->(∀ t,t∈l->Fits (2^28) t.2)/\l.length<=2^36:=λi l h=>hok.pre i l (by grind);have hmost:=hok.most;rw[hAL] at ho;have hfl:f.ts.length<2^38:=by have:=hok.fl.len;omega
 obtain⟨V,hV⟩:=ex (fA f);have hVt:∀ (i:Nat) t,f.ts[i]?=some t->V.ts[i]?=some (t.1,zI t.2):=λi t h=>by rw[<-hV];show (tR f.ts)[i]?=_;simp[tR,Za,h]
 have hVl:V.ts.length=f.ts.length:=by rw[<-hV];exact w4 _
 have hfv:fv f=av V:=by rw[<-hV]
 rw[hfv] at cfin ⊢;obtain⟨W,hW⟩:∃ W,zI (((o.map λl=>((f.sub (s.sum (mR l)).2).c,l)).map Prod.fst).getD 0)=W:=⟨_,rfl⟩;obtain⟨RL,hRL⟩:∃ W,mR (((o.map λl=>((f.sub (s.sum (mR l)).2).c,l)).map Prod.snd).getD [])=W:=⟨_,rfl⟩;obtain⟨bb,hbb⟩:∃ W,(o.map λl=>((f.sub (s.sum (mR l)).2).c,l)).isSome=W:=⟨_,rfl⟩;rw[hW,hRL,hbb];have gN:o=none->W=R0/\RL=[]/\bb=false:=λh=>by rw[h] at hW hRL hbb;exact⟨hW.symm.trans uT,hRL.symm,hbb.symm⟩
 have gS:∀ l,o=some l->W=zI (f.sub (s.sum (mR l)).2).c/\RL=mR l/\bb=true:=λl h=>by rw[h] at hW hRL hbb;exact⟨hW.symm,hRL.symm,hbb.symm⟩
 clear hW hRL hbb hab hAL hPR hok hV hfv;obtain⟨w1,w2,w3⟩:=W;have gN':o=none->w1=false/\w2=[]/\w3=[]/\RL=[]/\bb=false:=λh=>by grind
 clear gN;cbv;refine zW (σ:=Nat×List (Row×Rat)) (λst=>⟨[(2,.ptr 2 0),(3,.ptr 3 0),(4,.ptr 4 0),(7,mlv (mR st.2)),(8,iV st.1)],[(2,.box (sc s)),(3,.box [tsv V.ts,bV V.c.neg,nat V.c.num,nat V.c.den]),(4,.box [.ff,.nil,.nil])]⟩)
  (λst=>st.1<=f.ts.length/\AL (f.ts.drop st.1) st.2=o/\PR st.1 st.2) (λst=>f.ts.length-st.1)
  (0,[]) ⟨yY _,ho,hPR0⟩ (wkZ) ?_
 intro st hst;obtain⟨i,acc⟩:=st;obtain⟨h1,h2,h4⟩:=hst;dsimp only at h1 h2 h4;clear ho hPR0;have h3:=hpre i acc h4;cbv;refine zE (λh5=>?_) (λh5=>?_)
 ·(rw[zA,hVl] at h5;have hlt:i<f.ts.length:=by exact om);obtain⟨t,ht⟩:=zQ hlt
  have hmem:=z8 ht;have hx:=hVt i t ht;have cam':=cam t hmem;have cal':=cal t hmem;have csg':=csg t hmem;have hmo:=hmost t hmem;have cmg':=cmg t hmem;obtain⟨X,hX⟩:=ex (zI t.2);simp only[hX] at cmg';rw[hX] at hx csg';clear cam cal csg cmg hmost hVt cfin gS;generalize hsg:yB t.2=sg at *;cbv;refine yE hx wI wG ?_;cbv;refine cA cam' ?_;cbv;refine cA csg' ?_;cbv;refine zE (λe1=>?_) (λe1=>?_)
  ·(have HM:(if 0<yB t.2 then some (s.atLeastM t.1) else s.atMostM t.1)=some (s.atLeastM t.1):=by rw[hsg,if_pos e1]);have hls:=GV s t.1
   (have hPn:=hPRs i t _ acc ht HM h4;have hn':AL (f.ts.drop i) acc=AL (f.ts.drop (i+1)) (xS acc (s.atLeastM t.1) (vG t.2)):=by rw[zT ht,hTc,HM]);rw[hn'] at h2
   have cm:=cmg' acc _ h3.1 h3.2 hls.1 hls.2;clear HM hTc hPRs hn' hls;generalize s.atLeastM t.1=more at *;generalize xS acc more (vG t.2)=acc' at *;cbv;refine cA cal' ?_;cbv;refine cA cm ?_;cbv;exact⟨zC om om,(i+1,acc'),⟨om,h2,hPn⟩,om,wkZ⟩
  ·(have HM0:(if 0<yB t.2 then some (s.atLeastM t.1) else s.atMostM t.1)=s.atMostM t.1:=by rw[hsg,if_neg e1]);cases hoo:s.atMostM t.1 with
   |none =>
    (have hz:o=none:=by rw[<-h2,zT ht,hTc,HM0,hoo]);obtain⟨q1,q2,q3,q4,q5⟩:=gN' hz
    subst q1 q2 q3 q4 q5;cbv;refine zN (λe=>absurd e (by simp)) (λ_=>?_);cbv;exact rA
   |some more =>
    (have hls:=hmo more hoo;have hPn:=hPRs i t more acc ht (HM0.trans hoo) h4;have hn':AL (f.ts.drop i) acc=AL (f.ts.drop (i+1)) (xS acc more (vG t.2)):=by rw[zT ht,hTc,HM0,hoo]);rw[hn'] at h2
    (have cm:=cmg' acc more h3.1 h3.2 hls.1 hls.2;have hg:(s.atMostM t.1).getD []=more:=by rw[hoo];rfl);clear HM0 hTc hPRs hn' hls
    generalize xS acc more (vG t.2)=acc' at *;cbv;refine zN (λ_=>?_) (λe=>absurd e (by simp));cbv;refine yP rfl (by exact⟨lR,zR rfl,okA,trivial⟩) cm rfl ?_;cbv;exact⟨zC om om,(i+1,acc'),⟨om,h2,hPn⟩,om,wkZ⟩
 ·(have hi:i=f.ts.length:=by rw[zA,hVl] at h5;exact om);rw[hi,x8,hTn] at h2
  obtain⟨c1,c2⟩:=cfin acc h2.symm;obtain⟨q1,q2,q3⟩:=gS acc h2.symm;subst q2 q3
  (try dsimp only [fv] at c1 c2)
  have e1:fA (f.sub (s.sum (mR acc)).2)=⟨tR (f.sub (s.sum (mR acc)).2).ts,zI (f.sub (s.sum (mR acc)).2).c⟩:=rfl;rw[e1,<-q1] at c2;generalize tR (f.sub (s.sum (mR acc)).2).ts=TT at *;generalize fA (s.sum (mR acc)).2=SS at *;generalize (s.sum (mR acc)).1=code at *;clear q1 e1 gS gN' cfin;cbv;refine cA c1 ?_;cbv;refine cA c2 ?_;cbv;exact rA
theorem Wt.take {s:Scp}:∀ {l:List (Row×Rat)} {N:Nat},Wt s l N->∀ i,∃ M,M<=N/\Wt s (l.take i) M
 |_,_,.nil,i=>⟨0,yC _,by rw[List.take_nil];exact .nil⟩| _,_,.cons hk hg h,0=>⟨0,yY _,by rw[List.take_zero];exact .nil⟩| _,_,.cons (k:=k) (g:=g) (N:=N) hk hg h,i+1=>by obtain⟨M,h1,h2⟩:=h.take i;exact⟨k+g+5+M,by omega,by rw[List.take_succ_cons];exact .cons hk hg h2⟩
theorem Wt.fmem {s:Scp}:∀ {l:List (Row×Rat)} {N:Nat},Wt s l N->∀ t,t∈l->∀ f,s.fm t.1=some f->f.fl N 3000
 |_,_,.nil,t,ht=>absurd ht (by simp)| _,_,.cons hk hg h,t,ht=>by rcases yM.1 ht with rfl|ht;{exact λf hf=>(hg f hf).mono oM (yC _)};{exact λf hf=>(h.fmem t ht f hf).mono oM (yC _)}
theorem Wt.sumOk {s:Scp}{l:List (Row×Rat)}{N:Nat}(h:Wt s l N)(hN:N<2^26)(hf:∀ t,t∈l->∀ f,s.fm t.1=some f->f.fl (2^24) 3000)(hc:∀ t,t∈l->Fits (2^20) t.2)(hl:l.length<=100000):SumOk s (mR l) where
 fm m hm f hf':=by obtain⟨t,ht,rfl⟩:=xB.1 hm;exact (hf t ht f hf').mono (yC _) (by decide)
 c:=⟨by rw[kT];omega,λm hm=>by obtain⟨t,ht,rfl⟩:=xB.1 hm;exact (zU (hc t ht)).mono (by decide)⟩
 pre i acc ha:=by
  (obtain⟨M,h1,h2⟩:=h.take i;rw[As] at ha;have:=h2.sumL zero_fl ha;have hl2:(l.take i).length<=l.length:=by rw[dM];omega);exact this.mono oM oM
theorem Wt.sumOk' {s:Scp}{l:List (Row×Rat)}{N:Nat}(h:Wt s l N)(hN:N<=2^20)(hl:l.length<=100000):SumOk s (mR l) :=
 h.sumOk (xL hN (by decide)) (λt ht f hf=>(h.fmem t ht f hf).mono (vI hN (by decide)) (yC _)) (λt ht=>(h.mem t ht).mono hN) hl
def KT {s:Scp}{x:FQry}(hq:s.q=x.q)(hx:x.small)(hL:LB KK s.lems){f:F}{j:Nat}(hj:j<=3)(hf:f.fl 46 7)(hw:f.wf ((x.g.n+j:Nat):Int)):AbvOk s f:=by
 have ok:=Sn hx.g.n1 hx.g.n2 hj;have kl:=Ba j;have hn:=hx.g.n2;have hv:∀ t,t∈f.ts->((0:Nat):Int)<=t.1/\t.1<((x.g.n+j:Nat):Int):=λt ht=>by have:=hw.v t ht;omega
 have key:∀ i l,s.aboveL (f.ts.take i) []=some l->∃ M,M<=2^20/\Wt s l M/\l.length<=14:=λi l h=>by
  (obtain⟨M,h1,h2⟩:=ZK hq hx J6 hL (hi:=x.g.n+j) (lo:=0) (hw.cn.take i) (λt ht=>hv t (bB ht)) (λt ht=>hf.t t (bB ht)) (yY _) .nil h;have h3:=iR h;have h4:=hf.len;have h5:(f.ts.take i).length<=f.ts.length:=by rw[dM];omega);have h6:rM KK x.g.n 0=0:=rfl
  (simp only[tM] at h3;refine⟨M,?_,h2,by omega⟩;have:(679650:Nat)<=2^20:=by decide);omega
 refine⟨hw.cn,hf.mono (by decide) (by decide),λt ht=>?_,λi l h=>?_,λt ht more h=>?_,λl h=>?_⟩;{have:=hv t ht;omega};{obtain⟨M,h1,h2,h3⟩:=key i l h;exact⟨λt ht=>(h2.mem t ht).mono (vI h1 (by decide)),by omega⟩}
 ·(obtain⟨v,hv1⟩:∃ v:Nat,t.1=v:=⟨t.1.toNat,by have:=hv t ht;omega⟩;rw[hv1] at h;obtain⟨B,h1,h2⟩:=HO hq hx J6 hL v h;have h3:=QR h;refine⟨λu hu=>(h2.mem u hu).mono ?_,by omega⟩;have hlt:v+1<=x.g.n+j:=by have:=hv t ht;omega);have h4:=ZD (K:=KK) (n:=x.g.n) hlt
  (have h5:rM KK x.g.n (v+1)=rM KK x.g.n v+cst KK x.g.n v:=rfl;have:(679650:Nat)<=2^20:=by decide);omega
 {have hfull:f.ts.take f.ts.length=f.ts:=vP;obtain⟨M,h1,h2,h3⟩:=key f.ts.length l (by rw[hfull];exact h);exact h2.sumOk' h1 oM}
def Qb {t:TypeId}{base x:Operand}{d:Option Nat}{ps ps':PS}{K:PS->Prop}(hw:Wk ps ps')(h:AppK t base x d ps' K):AppK t base x d ps K:=by rcases h.h with h|h;{obtain⟨p,a1,a2,a3,a4,a5,a6,a7,a8⟩:=h.h;exact⟨.inl ⟨p,a1,a2,a3,a4,a5,a6,.trans hw a7,a8⟩⟩};{exact h.h.elim}
def Kp {α:Type}(p:α->List PV)(l:List α):((enc p l).drop 0).take l.length=enc p l:=by rw[wN,<-zA p l,vP]
def rD:ty 40=.sli 6 96 [iV 0,.ff,.ff,.nil,.nil,.nil]:=by cbv
def xJ (b:Bool) (j:Int) (up:Bool) (v:R) (l:List Mult):List Lem:=if b=true then [⟨j,up,v,l⟩] else []
def Gh (j:Int)(x y:Option (Rat×List (Row×Rat))):WT j x y=xJ x.isSome j false (zI ((x.map Prod.fst).getD 0)) (mR ((x.map Prod.snd).getD []))++xJ y.isSome j true (zI (-(zI ((y.map Prod.fst).getD 0)).q)) (mR ((y.map Prod.snd).getD [])):=by unfold WT xJ;grind [z9]
def kJ (L:List Lem)(m:Lem):enc lc (L++[m])=enc lc L++zS [lc m]:=by simp[enc,zS]
def Po {q:Qry}{P:List Dec}(h:(⟨q,P,[]⟩:Scp).sz (2^20)){L:List Lem}{j:Nat}(hj:j<=4)(hL:Lok L j):(⟨q,P,L⟩:Scp).sz (2^20):=by refine⟨h.q,h.path,⟨by have:=hL.len;grind,λm hm=>?_,λm hm=>(hL.pf m hm).1.mono (by decide)⟩⟩;obtain⟨q,hq⟩:=hL.v m hm;obtain⟨i,_,hf⟩:=hL.lb m hm;rw[hq,z9] at hf;rw[hq];exact zU (hf.mono (vI (Ba i) (by decide)))
structure BndF (q:Qry) (P:List Dec) (j:Nat) (L:List Lem) (p p2:A) (xv yv zv:R) (xl yl:List Mult) (xb yb:Bool):Prop where
 c1:zD 202 [sv ⟨q,P,L⟩,av p] (.tup [rv xv,mlv xl,bV xb])
 c2:zD 100 [av p,rv (zI ((-1:Int):Rat))] (av p2)
 c3:zD 202 [sv ⟨q,P,L⟩,av p2] (.tup [rv yv,mlv yl,bV yb])
 c4:yb=true->zD 101 [rv yv] (rv zv)
 lok:Lok (L++(xJ xb j false xv xl++xJ yb j true zv yl)) (j+1)
 g:∀ r,U8 q P (p::r) j L=U8 q P r (j+1) (L++(xJ xb j false xv xl++xJ yb j true zv yl))
def Fk {x:FQry}(hx:x.small)(hwf:∀ (i:Nat) (f:F),x.g.us[i]?=some f->f.wf ((x.g.n+i:Nat):Int)){P:List Dec}(hP:(⟨x.q,P,[]⟩:Scp).sz (2^20)){j:Nat}{p:A}(hp:x.q.g.us[j]?=some p){L:List Lem}(hL:Lok L j):∃ p2 xv yv zv xl yl xb yb,BndF x.q P j L p p2 xv yv zv xl yl xb yb:=by
 have hp':(x.g.us.map fA)[j]?=some p:=hp;rw[Za] at hp';cases hb:x.g.us[j]? with
 |none=>grind| some b =>
  (rw[hb] at hp';have hpb:p=fA b:=by grind);have hlt:=(vV.1 hb).1
  (have hj:j<=3:=by have:=hx.g.us;omega);have hf:=hx.g.uf b (z8 hb)
  (have hw:=hwf j b hb;have hs:=Po hP (by omega:j<=4) hL;have n0:0<=x.q.g.n:=by show (0:Int)<=(x.g.n:Int);omega);have n1:x.q.g.n<=256:=by have:=hx.g.n2;show (x.g.n:Int)<=256;omega
  have a1:=Hv ⟨x.q,P,L⟩ b hs n0 n1 (KT rfl hx hL.lb hj (hf.mono (by decide) (by decide)) hw);have a3:=Hv ⟨x.q,P,L⟩ (b.scale (-1)) hs n0 n1 (KT rfl hx hL.lb hj ((hf.scale wC).mono (by decide) (by decide)) hw.scale);have a2:=gY (q:=-1) hf wC (by decide) (by decide) (by decide);obtain⟨l1,l2⟩:=CS hx hwf (path:=P) hb hL;rw[Gh] at l1;refine⟨fA (b.scale (-1)),_,_,_,_,_,_,_,⟨by simp_all,by simp_all,a3,λh=>?_,l1,λr=>?_⟩⟩
  ·refine Dc _ ?_;cases hy:(⟨x.q,P,L⟩:Scp).above (b.scale (-1)) with
   |none=>grind| some v=>exact (zU (l2 v hy)).mono (by decide)
  {rw[hpb];show U8 x.q P r (j+1) (L++WT j ((⟨x.q,P,L⟩:Scp).above (fA b).f) ((⟨x.q,P,L⟩:Scp).above ((fA b).f.scale (-1))))=_;rw[kL,Gh]}
def BZ (raw : List UInt8) : zD 168 [svN (fdS raw)] (sv (fdS raw).bounded) := by
  refine sF Tryz.f168 ?_
  have sm := pK raw 0
  have hwf := Cm raw 0
  have hz : (fdS raw).sz (2^20) := by
    have g := PB raw
    exact ⟨g.q.mono (by decide), ⟨g.path.len, fun d hd => (g.path.sz d hd).mono (by decide)⟩, ⟨by show 0 < 2^38; decide, fun m hm => absurd hm (by simp [fdS]), fun m hm => absurd hm (by simp [fdS])⟩⟩
  have hbg : (fdS raw).bounded = ⟨(fdY raw 0).1.q, (fdS raw).path, U8 (fdY raw 0).1.q (fdS raw).path (fdY raw 0).1.q.g.us 0 []⟩ := rfl
  have hsd : fdS raw = ⟨(fdY raw 0).1.q, (fdS raw).path, []⟩ := rfl
  rw [hbg]
  generalize (fdS raw).path = path at *
  rw [hsd] at hz ⊢
  have hF := fun j p L hp hL => Fk (j := j) (p := p) (L := L) sm hwf hz hp hL
  clear hbg hsd hwf hz
  have hul : (fdY raw 0).1.q.g.us.length ≤ 4 := by show (List.map fA _).length ≤ 4; rw [wH]; exact sm.g.us
  clear sm
  generalize (fdY raw 0).1.q = Q at *
  have cof := s32 (-1) (by decide) (by decide)
  obtain ⟨M1, hM1⟩ := ex (zI ((-1 : Int) : Rat))
  have hF' : ∀ (j : Nat) (p : A) (L : List Lem), Q.g.us[j]? = some p → Lok L j → ∃ p2 xv yv zv xl yl xb yb, BndF Q path j L p p2 xv yv zv xl yl xb yb := hF
  clear hF
  obtain ⟨⟨n, us, os⟩, ⟨lo, hi', rows⟩, ⟨ts, c⟩⟩ := Q
  dsimp only at hF' hul
  rw [hM1] at cof
  obtain ⟨G, hG⟩ := ex (U8 ⟨⟨n, us, os⟩, ⟨lo, hi', rows⟩, ⟨ts, c⟩⟩ path)
  rw [hG]
  have hGn : ∀ j L, G [] j L = L := fun j L => by rw [← hG]; rfl
  obtain ⟨L9, hL9⟩ := ex (G us 0 [])
  rw [hL9]
  cbv
  refine uL 10 (by cbv) (by cbv) ?_
  cbv
  refine zW (σ := Nat × List Lem) (fun s => ⟨[(1, .ptr 1 0), (2, .ptr 2 0), (3, .ptr 3 0), (4, iV s.1)],
      [(1, .box [iV n, alv us, alv os, rlv lo, rlv hi', alv rows, tsv ts, bV c.neg, nat c.num, nat c.den, dlv path, .nil]), (2, .box [iV 0, .nil, .nil, .nil, .nil, .nil, .nil, .ff, .nil, .nil, .nil, .nil]), (3, .box [iV n, alv us, alv os, rlv lo, rlv hi', alv rows, tsv ts, bV c.neg, nat c.num, nat c.den, dlv path, oV 61 6 s.2.length]), (61, .lent 6 (fun _ => enc lc s.2))]⟩)
    (fun s => s.1 ≤ us.length ∧ G (us.drop s.1) s.1 s.2 = L9 ∧ Lok s.2 s.1) (fun s => us.length - s.1)
    (0, []) ⟨yY _, hL9, ⟨fun m hm => absurd hm (by simp), by simp, fun m hm => absurd hm (by simp), fun m hm => absurd hm (by simp)⟩⟩
    (.trans (wkZ (ps' := ⟨[(1, .ptr 1 0), (2, .ptr 2 0), (3, .ptr 3 0), (4, iV (((0 : Nat) : Int)))], [(1, .box [iV n, alv us, alv os, rlv lo, rlv hi', alv rows, tsv ts, bV c.neg, nat c.num, nat c.den, dlv path, .nil]), (2, .box [iV 0, .nil, .nil, .nil, .nil, .nil, .nil, .ff, .nil, .nil, .nil, .nil]), (3, .box [iV n, alv us, alv os, rlv lo, rlv hi', alv rows, tsv ts, bV c.neg, nat c.num, nat c.den, dlv path, .emp])]⟩))
    (.trans (.adoptB (ps := ⟨[(1, .ptr 1 0), (2, .ptr 2 0), (3, .ptr 3 0), (4, iV (((0 : Nat) : Int)))], [(1, .box [iV n, alv us, alv os, rlv lo, rlv hi', alv rows, tsv ts, bV c.neg, nat c.num, nat c.den, dlv path, .nil]), (2, .box [iV 0, .nil, .nil, .nil, .nil, .nil, .nil, .ff, .nil, .nil, .nil, .nil]), (3, .box [iV n, alv us, alv os, rlv lo, rlv hi', alv rows, tsv ts, bV c.neg, nat c.num, nat c.den, dlv path, .emp])]⟩) (cs := [iV n, alv us, alv os, rlv lo, rlv hi', alv rows, tsv ts, bV c.neg, nat c.num, nat c.den, dlv path, .emp]) 61 6 3 11 rfl rfl rfl)
    (.trans (.pub 61 rfl rfl) (.le okZ ?_ rfl)))) ?_
  · cbv
    exact ⟨okA, okA, okA, zG rfl, trivial⟩
  intro s hs
  obtain ⟨j, L⟩ := s
  obtain ⟨h1, h2, h3⟩ := hs
  dsimp only at h1 h2 h3
  clear hL9
  cbv
  refine zE (fun h => ?_) (fun h => ?_)
  · rw [zA] at h
    have hlt : j < us.length := by exact om
    obtain ⟨p, hp⟩ := zQ hlt
    obtain ⟨p2, xv, yv, zv, xl, yl, xb, yb, F⟩ := hF' j p L hp h3
    have g2 := F.g (us.drop (j + 1))
    rw [hG, ← zT hp, h2] at g2
    have c1 := F.c1
    have c2 := F.c2
    have c3 := F.c3
    have c4 := F.c4
    have lk := F.lok
    have lkL : L.length ≤ 8 := by have := h3.len; omega
    clear F hF' hG h2 h3 hGn
    rw [hM1] at c2
    have hT : ((enc lc L).drop 0).take L.length = enc lc L := by rw [wN, ← zA lc L, vP]
    have hfr : 0 + L.length ≤ (enc lc L).length := by grind [zA]
    have hLn := lkL
    cbv
    refine yE hp jI dN ?_
    cbv
    refine rJ 61 rfl (by cbv; repeat' first | exact trivial | exact ⟨hfr⟩ | apply And.intro) ?_
    cbv
    refine yP rfl (by exact ⟨⟨lR, lR, lR, lR, lR, lR, lR, lR, lR, lR, lR, zR hT, trivial⟩, okA, trivial⟩) c1 rfl ?_
    cbv
    refine w5 12 [(10, 9)] (by cbv) (by cbv) (by cbv) ?_
    cbv
    refine rJ 61 rfl (by cbv; repeat' first | exact trivial | exact ⟨hfr⟩ | apply And.intro) ?_
    cbv
    refine dA cof ?_
    cbv
    refine dA c2 ?_
    cbv
    refine x7 (by exact ⟨⟨lR, lR, lR, lR, lR, lR, lR, lR, lR, lR, lR, zR hT, trivial⟩, okA, trivial⟩) c3 rfl ?_
    cbv
    refine nR (σ := List Lem) (fun Lx => ⟨[(1, .ptr 1 0), (2, .ptr 2 0), (3, .ptr 3 0), (4, iV j), (9, .ptr 9 0), (10, mlv yl), (11, bV yb)],
        [(1, .box [iV n, alv us, alv os, rlv lo, rlv hi', alv rows, tsv ts, bV c.neg, nat c.num, nat c.den, dlv path, .nil]), (2, .box [iV 0, .nil, .nil, .nil, .nil, .nil, .nil, .ff, .nil, .nil, .nil, .nil]), (3, .box [iV n, alv us, alv os, rlv lo, rlv hi', alv rows, tsv ts, bV c.neg, nat c.num, nat c.den, dlv path, oV 61 6 Lx.length]), (61, .log 6 (fun _ => enc lc Lx)), (9, .box [bV yv.neg, nat yv.num, nat yv.den])]⟩)
      (fun Lx => Lx = L ++ xJ xb j false xv xl) (fun e => ?_) (fun e => ?_) (fun Lx hLx => ?_)
    · cbv
      refine HY ?_
      cbv
      refine Qb (.lend 61 4 rfl rfl trivial) ?_
      cbv
      refine mQ rD rfl rfl rfl (by grind) rfl ⟨by simp [zS, xD]⟩ (z6 oM (by simp [zS, zA]; exact om)) rfl ?_
      cbv
      refine ⟨L ++ [⟨j, false, xv, xl⟩], by unfold xJ; grind, .le okZ ?_ rfl⟩
      cbv
      refine ⟨okA, okA, ⟨lR, lR, lR, lR, lR, lR, lR, lR, lR, lR, lR, z4 rfl (by simp [zS, zA]), trivial⟩, zG ?_, okA, trivial⟩
      rw [kJ]
      rfl
    · cbv
      refine ⟨L, by unfold xJ; grind, .le okZ ?_ rfl⟩
      cbv
      exact ⟨okA, okA, okA, zG rfl, okA, trivial⟩
    · have hxl : Lx.length ≤ 9 := by rw [hLx, rB]; have : (xJ xb j false xv xl).length ≤ 1 := by unfold xJ; grind
                                     omega
      have g3 : L ++ (xJ xb j false xv xl ++ xJ yb j true zv yl) = Lx ++ xJ yb j true zv yl := by grind
      rw [g3] at g2 lk
      clear g3 hLx c1 c2 c3 cof hT hfr
      cbv
      refine zN (fun e => ?_) (fun e => ?_)
      · have g3 : xJ yb j true zv yl = [⟨j, true, zv, yl⟩] := by unfold xJ; grind
        rw [g3] at g2 lk
        have c4' := c4 e
        clear c4 g3
        cbv
        refine zL 8 (by cbv) ?_
        cbv
        refine dA c4' ?_
        cbv
        refine mQ rD rfl rfl rfl (by simp [zA]) rfl ⟨by simp [zS, xD]⟩ (z6 oM (by simp [zS, zA]; exact om)) rfl ?_
        cbv
        refine ⟨zC om om, (j + 1, Lx ++ [⟨j, true, zv, yl⟩]), ⟨om, g2.symm, lk⟩, om, .trans (.pub 61 rfl rfl) (.le okZ ?_ rfl)⟩
        cbv
        refine ⟨okA, okA, ⟨lR, lR, lR, lR, lR, lR, lR, lR, lR, lR, lR, z4 rfl (by simp [zS, zA]), trivial⟩, zG ?_, trivial⟩
        rw [kJ]
        rfl
      · have g3 : xJ yb j true zv yl = [] := by unfold xJ; grind
        rw [g3, kF] at g2 lk
        clear c4 g3
        cbv
        refine ⟨zC om om, (j + 1, Lx), ⟨om, g2.symm, lk⟩, om, .trans (.pub 61 rfl rfl) (.le okZ ?_ rfl)⟩
        cbv
        exact ⟨okA, okA, okA, zG rfl, trivial⟩
  · have hj : j = us.length := by rw [zA] at h; exact om
    rw [hj, x8, hGn] at h2
    subst h2
    have hT : ((enc lc L).drop 0).take L.length = enc lc L := by rw [wN, ← zA lc L, vP]
    have hfr : 0 + L.length ≤ (enc lc L).length := by grind [zA]
    clear hF' hG hGn h3
    cbv
    refine rJ 61 rfl (by cbv; repeat' first | exact trivial | exact ⟨hfr⟩ | apply And.intro) ?_
    cbv
    (refine rC ?_; cbv)
    exact ⟨lR, lR, lR, lR, lR, lR, lR, lR, lR, lR, lR, zR hT, trivial⟩
def Rq (s:Scp)(j:Int)(hs:s.sz (2^20)):zD 110 [sv s,iV j] (.tup [bV (s.onU j),bV (s.offU j)]):=by
 refine sF Tryz.f110 ?_;have cb:=dW s j hs.lems;have cd1:=i8 s 1 j (hs.path.mono (by decide));have cd2:=i8 s 2 j (hs.path.mono (by decide));have csg:∀ m,m∈s.lems->zD 30 [rv m.v] (iV (yB m.v.q)):=λm hm=>s35 m.v (by have:=(hs.lems.sz m hm).n;omega);have hlen:=hs.lems.len;have hbb:∀ k:Nat,(k=(s.best j).1\/k=(s.best j).2)->k≠0->∃ m,s.lems[k-1]?=some m/\k-1<s.lems.length:=λk hk h0=>by obtain⟨m,hm,_⟩:=dK hk h0;exact⟨m,hm,(vV.1 hm).1⟩
 have hb1:=hbb _ (.inl rfl);have hb2:=hbb _ (.inr rfl);clear hbb;have hv:∀ (k:Nat) m,s.lems[k-1]?=some m->qL s.lems k=m.v.q:=λk m h=>by unfold qL;rw[h];rfl
 have hon:s.onU j=(s.dcd 1 j || (decide (0<(s.best j).1)&&decide (0<=yB (qL s.lems (s.best j).1)))):=rfl;have hoff:s.offU j=(s.dcd 2 j || (decide (0<(s.best j).2)&&decide (yB (qL s.lems (s.best j).2)<=0))):=rfl;generalize s.onU j=on at *;generalize s.offU j=off at *;generalize s.dcd 1 j=d1 at *;generalize s.dcd 2 j=d2 at *;generalize (s.best j).1=b1 at *;generalize (s.best j).2=b2 at *;have o11:d1=true->on=true:=λh=>by rw[hon,h];rfl
 have o12:d1=false->b1=0->on=false:=λh g=>by rw[hon,h,g];rfl
 have o13:d1=false->∀ m,s.lems[b1-1]?=some m->0<b1->on=decide (0<=yB m.v.q):=λh m hm g=>by rw[hon,h,hv b1 m hm,decide_eq_true g];rfl
 have o21:d2=true->off=true:=λh=>by rw[hoff,h];rfl
 have o22:d2=false->b2=0->off=false:=λh g=>by rw[hoff,h,g];rfl
 have o23:d2=false->∀ m,s.lems[b2-1]?=some m->0<b2->off=decide (yB m.v.q<=0):=λh m hm g=>by rw[hoff,h,hv b2 m hm,decide_eq_true g];rfl
 clear hon hoff hv hs;obtain⟨⟨⟨gn,us,os⟩,⟨lo,hi,rows⟩,⟨ts,c1,c2,c3⟩⟩,path,L⟩:=s;dsimp only at csg hlen hb1 hb2 o13 o23;cbv;refine cA cb ?_;cbv;refine cA cd1 ?_;cbv;refine yA (λeA=>?_) (λeA=>?_)
 ·have qA:=o11 eA;cbv;refine cA cd2 ?_;cbv;refine yA (λeB=>?_) (λeB=>?_)
  ·have qB:=o21 eB;cbv
   (refine rC ?_;cbv)
   exact⟨yJ qA,yJ qB,trivial⟩
  ·cbv;refine zO (λfB=>?_) (λfB=>?_)
   ·(have gB:b2≠0:=by exact om);obtain⟨mB,hmB,hlB⟩:=hb2 gB
    have qB:=o23 eB mB hmB oM;have csB:=csg mB (z8 hmB);have ixB:∀ {K:List PV->Prop},K (lc mB)->IdxOk 6 (λ_=>enc lc L) (λ_=>(b2:Int)-1) K:=λhK=>xG hmB oM yR y4 hK;generalize yB mB.v.q=sgB at *;cbv;refine⟨zC (by exact om) (by exact om),ixB ?_⟩;cbv;refine cA csB ?_;cbv
    (refine rC ?_;cbv)
    exact⟨yJ qA,zX qB.symm,trivial⟩
   ·have qB:=o22 eB (by exact om);cbv
    (refine rC ?_;cbv)
    exact⟨yJ qA,zK qB,trivial⟩
 ·cbv;refine zO (λfA=>?_) (λfA=>?_)
  ·(have gA:b1≠0:=by exact om);obtain⟨mA,hmA,hlA⟩:=hb1 gA
   have qA:=o13 eA mA hmA oM;have csA:=csg mA (z8 hmA);have ixA:∀ {K:List PV->Prop},K (lc mA)->IdxOk 6 (λ_=>enc lc L) (λ_=>(b1:Int)-1) K:=λhK=>xG hmA oM yR y4 hK;generalize yB mA.v.q=sgA at *;cbv;refine⟨zC (by exact om) (by exact om),ixA ?_⟩;cbv;refine cA csA ?_;cbv;refine cA cd2 ?_;cbv;refine yA (λeB=>?_) (λeB=>?_)
   ·have qB:=o21 eB;cbv
    (refine rC ?_;cbv)
    exact⟨zX qA.symm,yJ qB,trivial⟩
   ·cbv;refine zO (λfB=>?_) (λfB=>?_)
    ·(have gB:b2≠0:=by exact om);obtain⟨mB,hmB,hlB⟩:=hb2 gB
     have qB:=o23 eB mB hmB oM;have csB:=csg mB (z8 hmB);have ixB:∀ {K:List PV->Prop},K (lc mB)->IdxOk 6 (λ_=>enc lc L) (λ_=>(b2:Int)-1) K:=λhK=>xG hmB oM yR y4 hK;generalize yB mB.v.q=sgB at *;cbv;refine⟨zC (by exact om) (by exact om),ixB ?_⟩;cbv;refine cA csB ?_;cbv
     (refine rC ?_;cbv)
     exact⟨zX qA.symm,zX qB.symm,trivial⟩
    ·have qB:=o22 eB (by exact om);cbv
     (refine rC ?_;cbv)
     exact⟨zX qA.symm,zK qB,trivial⟩
  ·have qA:=o12 eA (by exact om);cbv;refine cA cd2 ?_;cbv;refine yA (λeB=>?_) (λeB=>?_)
   ·have qB:=o21 eB;cbv
    (refine rC ?_;cbv)
    exact⟨zK qA,yJ qB,trivial⟩
   ·cbv;refine zO (λfB=>?_) (λfB=>?_)
    ·(have gB:b2≠0:=by exact om);obtain⟨mB,hmB,hlB⟩:=hb2 gB
     have qB:=o23 eB mB hmB oM;have csB:=csg mB (z8 hmB);have ixB:∀ {K:List PV->Prop},K (lc mB)->IdxOk 6 (λ_=>enc lc L) (λ_=>(b2:Int)-1) K:=λhK=>xG hmB oM yR y4 hK;generalize yB mB.v.q=sgB at *;cbv;refine⟨zC (by exact om) (by exact om),ixB ?_⟩;cbv;refine cA csB ?_;cbv
     (refine rC ?_;cbv)
     exact⟨zK qA,zX qB.symm,trivial⟩
    ·have qB:=o22 eB (by exact om);cbv
     (refine rC ?_;cbv)
     exact⟨zK qA,zK qB,trivial⟩
def rU8 (w:World):ElR w 5 1 (λ_=>True) u8c :=
 (CE (k:=.u8) Tryz.underlying5 (by kernel_rfl)).map (λn=>UInt8.ofNat n.toNat) (λn h=>by
  (have:0<=n/\n<=255:=by simpa[Lit.wf,IntKind.min,IntKind.max,IntKind.signed,IntKind.bits] using h);have e:((UInt8.ofNat n.toNat).toNat:Int)=n:=by rw[UInt8.toNat_ofNat_of_lt' (by show n.toNat<256;omega)];omega
  show [D.int .u8 _]=[D.int .u8 _];rw[e]) (λ_ _=>trivial)
def Dt (w:World):ElR w 22 1 (λl=>l.length<=maxLen) (λl=>[u8v l]) :=
 (oS (k:=1) Tryz.underlying22 (by kernel_rfl) (by decide) (rU8 w)).map (λl=>l) (λ_ _=>rfl) (λ_ h=>h.2)
def Ye (x y:Int):Bool:=decide (x<=y)
def jK (ks:List Int):List Int:=ks.eraseDups.mergeSort Ye
def Xh (ks:List Int):ks.eraseDups.Nodup:=by
 have key:∀ (n:Nat) (l:List Int),l.length<=n->l.eraseDups.Nodup:=by
  intro n;induction n with
  |zero=>grind| succ n ih =>
   intro l h;cases l with
   |nil=>simp| cons a r =>
    grind [List.mem_eraseDups]
 exact key _ ks (Nat.le_refl _)
def GB {l l':List Int}(h:∀ x,x∈l↔x∈l')(h1:l.Nodup)(h2:l'.Pairwise (·<·)):l.mergeSort Ye=l':=by
 have tr:∀ a b c:Int,Ye a b=true->Ye b c=true->Ye a c=true:=λa b c h1 h2=>by simp only[Ye,decide_eq_true_eq] at *;omega
 have to:∀ a b:Int,(Ye a b || Ye b a)=true:=λa b=>by simp only[Ye,Bool.or_eq_true,decide_eq_true_eq];omega
 refine List.Perm.eq_of_pairwise (le:=λa b=>Ye a b=true) (λa b _ _ h1 h2=>by simp only[Ye,decide_eq_true_eq] at h1 h2;omega) (List.pairwise_mergeSort tr to l) (h2.imp λ{a b} h=>by simp only[Ye,decide_eq_true_eq];omega) ((List.mergeSort_perm l _).trans ?_);exact (List.perm_ext_iff_of_nodup h1 (h2.imp λ{a b} h=>by omega)).2 h
def Qs {ks l:List Int}(h:∀ x,x∈ks↔x∈l)(h2:l.Pairwise (·<·)):jK ks=l:=GB (λx=>by simp_all) (Xh ks) h2
end Go.Proofs.YtaeaffgjdcigoaaGreat
namespace Go.Proofs.YtaeaffgjdcigoaaGreat
open Go Go.Maps WideElems Go.WideShapes
def GY {P:Program}{w:World}{k b n:Nat}{R:Value->Option (DataW Unit×List MemPlace)}{D:DataW Unit}{ks:List Int}(hk:P.underlying k=some (.int .i64))(hown:w.ownsMap P k R b n D) (hat:∀ x:Int,(Lit.int .i64 x).wf=true->∀ z:DataW Unit,D.atKey (.int .i64 x) z=if x∈ks then .lit (.bool true) else z) (hwf:∀ x,x∈ks->(Lit.int .i64 x).wf=true):ks.eraseDups.Perm (intKeys D)/\Maps.size D<=n:=by
 obtain⟨es,clock,hb,F,hn,rfl⟩:=hown;have hK:=Maps.int_keyed (P:=P) hk;have hks:=fit_keys F;have hap:=fit_apart hK F;have hP:((es.toList.map (rg P k R)).foldr DataW.insert []).Pairwise (λp q=>p.1≠q.1):=((sorted_perm _).pairwise_iff (λ{a b} (h:a.1≠b.1)=>h.symm)).2 hap;have hint:∀ p,p∈(es.toList.map (rg P k R)).foldr DataW.insert []->∃ x:Int,p.1=.int .i64 x/\(Lit.int .i64 x).wf=true:=λp hp=>by obtain⟨key,hkey⟩:=hks p (mem_sorted.1 hp);grind [Maps.keyOf_i64]
 refine⟨perm_intKeys hP (λp hp=>(hint p hp).imp λ_ h=>h.1) (Xh ks) (λx=>?_),?_⟩
 ·rw[List.mem_eraseDups];constructor;{intro hx;exact has_true_of_atKey (y:=.lit (.bool true)) λz=>by grind}
  ·(intro hx;refine Decidable.byContradiction λhnx=>?_;have hw:(Lit.int .i64 x).wf=true:=by grind [has_eq,Lit.sameKey]);have:=has_false_of_atKey (D:=.map ((es.toList.map (rg P k R)).foldr DataW.insert [])) (k:=.int .i64 x) λz=>by grind
   grind
 {show ((es.toList.map (rg P k R)).foldr DataW.insert []).length<=n;rw[(Go.WideShapes.sorted_perm _).length_eq];grind}
end Go.Proofs.YtaeaffgjdcigoaaGreat
namespace Go.Proofs.YtaeaffgjdcigoaaGreat
open Go Go.RowKit
set_option maxHeartbeats 4000000
set_option maxRecDepth 100000
def Qz (ks:List Int)(hl:ks.length<2^40)(hb:∀ z,z∈ks->-9223372036854775808<=z/\z<=9223372036854775807):Sound 56 [.fn 125 [.ptr 1000001 0]] [(1000000,.mp 119 (λ_=>ks)),(1000001,.box [.mpv 1000000])] [] (.sl (λ_=>(jK ks).map λz=>[D.int .i64 z])) [(1000000,.mp 119 (λ_=>ks)),(1000001,.box [.mpv 1000000])] []:=by
 refine⟨λvals w=>enters_of (P:=Pg) (by rw[uQ];exact Tryz.func56) (by kernel_rfl) rfl vals w,?_⟩;intro w S β vals hS hO hsz hv;have hbo:=hO.at_ 1000001 _ (x9 _ (wB ..));obtain⟨Bx,vs,T,b1,b2,b3,b4⟩:=hbo;have hmo:=hO.at_ 1000000 _ (wB ..);obtain⟨b,k,e,Dm,m1,⟨m2,m3,m4,m5⟩,m6,m7⟩:=hmo;have hBx:Bx<w.heap.size:=(hO.un 1000001 _ Bx (x9 _ (wB ..)) (.inl b1)).2;have hr:=b4 0 (by decide);obtain⟨b',hb',hmv⟩:=nA hr;have ebb:b'=b:=by rw[m1] at hb';exact (qQ hb').symm
 rw[ebb] at hmv;have hvv:=hv 0 (by decide);obtain⟨cvs,hf1,hf2,hf3⟩:=j7 hvv;obtain⟨Bx',hβx,hpv⟩:=qW (hf3 0 (by decide));have exx:Bx'=Bx:=by rw[b1] at hβx;exact (qQ hβx).symm
 rw[exx] at hpv;have hcv:cvs=#[.pointer (some ⟨Bx,0,none⟩)]:=by
  obtain⟨l⟩:=cvs
  match l,hf2,hpv with
  |[x],_,h=>simp at h;rw[h]
 have hvals:vals=#[.func (.func 125) #[] #[.pointer (some ⟨Bx,0,none⟩)]]:=by
  rw[hcv] at hf1;obtain⟨l⟩:=vals
  match l,hsz,hf1 with
  |[x],_,h=>simp at h;rw[h]
 have hcell:w.cell? ⟨Bx,0,none⟩=some (.map (some b)):=by
  obtain⟨l⟩:=vs
  match l,b3,hmv,b2 with
  |[x],_,h,h2=>simp at h;simp[World.cell?,h2,h]
 have ek:k=3:=by
  (have h1:Pg.underlying 119=some (.map 3 4):=by rw[uQ];kernel_rfl);rw[h1] at m2
  cases m2;rfl
 rw[ek] at m3 m6;have hwf:∀ x,x∈ks->(Lit.int .i64 x).wf=true:=λx hx=>by simp only[Lit.wf,yZ,decide_eq_true_eq];exact hb x hx
 obtain⟨kp,kn'⟩:=GY m3 m6 m7 hwf;have kn:Maps.size Dm<=ks.length:=kn';have hgo:Calls Pg 56 vals w λe w'=>∃ (v:Value) (ss:List Int),e=.returned v/\ss.Perm (intKeys Dm) /\
   w'.ownsRow w.heap.size 3 1 v ss.length ((ss.mergeSort (λx y=>decide (x<=y))).map encZ)/\(v=.slice none 0 0↔ss=[])/\Below w.heap.size w w':=by
  rw[hvals];rw[uQ] at m6 ⊢;exact Tryz.sortedGo b ks.length Bx Dm _ w hBx hcell m6 (by unfold maxLen;omega) oM
 refine hgo.mono ?_;rintro e' w' ⟨v,ss,rfl,hp,hrow,hnil,hbl⟩;have hsort:ss.mergeSort (λx y=>decide (x<=y))=jK ks:=mergeSort_of_perm_i (hp.trans kp.symm);have hlen:(jK ks).length=ss.length:=by rw[<-hsort,List.length_mergeSort]
 rw[hsort] at hrow;obtain⟨g,hgw,hg⟩:∃ g,w.heap.size<=g/\(0<ss.length->∃ cap cur,v=.slice (some ⟨g,0,none⟩) ss.length cap/\w'.heap[g]?=some (.cells cur 3 (0,0))/\ss.length<=cap/\cur.toList.take ss.length=(jK ks).map encZ):=by rcases hrow.2 with⟨h1,h2⟩|⟨g,cap,cur,r1,r2,r3,r4,r5,r6,r7⟩;{exact⟨w.heap.size,yC _,λh=>absurd h oM⟩};{exact⟨g,r2,λ_=>⟨cap,cur,r1,r3,r4,by rw[tG] at r7;exact r7⟩⟩}
 have hld:Leads w S uS w' (λb i=>S b i\/(b=g/\i<ss.length)):=⟨hbl.size,hbl.os,hbl.tape,hbl.output,λb hb _=>hbl.block b hb,
  λb vs T h=>⟨vs,by rw[hbl.block b (Array.getElem?_eq_some_iff.1 h).1];exact h,rfl⟩,
  λb i h=>by
   rcases h with h|⟨rfl,h⟩;{exact uP (hS b i h) hbl.size}
   ·obtain⟨cap,cur,_,h2,_⟩:=hg oM;exact (Array.getElem?_eq_some_iff.1 h2).1,
  λb i _ h=>.inl h,λb i hb _ h=>h.elim id (λh=>absurd hb oM)⟩
 refine⟨v,_,β,rfl,⟨hld.size,hld.os,hld.tape,hld.output,λb hb _=>hld.same b hb (λh=>h),hld.shape,hld.bnd,hld.sub,λb i hb _=>hld.old b i hb (λh=>h)⟩,?_,hO.go hld hS,rfl,λ_ _ _=>rfl,λn o b h h'=>.inr ⟨n,o,h,h'⟩⟩;refine .c rfl ?_;show RepD _ _ v (.sl ((jK ks).map λz=>[D.int .i64 z]));by_cases h0:0<ss.length
 ·(obtain⟨cap,cur,r1,r3,r4,r7⟩:=hg h0;have hel:((jK ks).map λz=>[D.int .i64 z]).length=ss.length:=by rw[wH,hlen]);rw[r1,<-hel]
  refine .sl (s:=1) (λi _=>.int .i64 ((jK ks).getD i 0)) (λh=>by rw[h] at hel;simp at hel;omega) oM (λi j h1 h2=>.inr ⟨rfl,by omega⟩) (λe he=>by obtain⟨z,_,rfl⟩:=xB.1 he;rfl) (λi j h1 h2=>?_) (λ_ _ _ _=>rfl) (λi j h1 h2=>?_)
  ·(have hj:j=0:=by omega);subst hj
   (have hi:i<ss.length:=by omega);have hcur:cur[i]?=some (.int .i64 ((jK ks).getD i 0)):=by have:=congrArg (λl=>l[i]?) r7;simp only[s9 hi,Za] at this;rw[jM (by omega:i<(jK ks).length)] at this;rw[<-Array.getElem?_toList,this,fO,jM (by omega:i<(jK ks).length)];rfl
   simp[World.cell?,r3,hcur]
  ·(have hj:j=0:=by omega);subst hj
   (have hi:i<(jK ks).length:=by omega);have e1:((jK ks).map λz=>[D.int .i64 z]).getD i []=[D.int .i64 ((jK ks).getD i 0)]:=by simp only[fO,Za,jM hi];rfl
   rw[e1];exact .int _ _
 {have hz:ss=[]:=jO oM;have hk0:jK ks=[]:=jO (by rw[hlen,hz];rfl);rw[hk0,hnil.2 hz];exact .sl0 _ _}
end Go.Proofs.YtaeaffgjdcigoaaGreat
namespace Go.Proofs.YtaeaffgjdcigoaaGreat
open Go
abbrev Bd:=R×List (Row×Rat)
def inG (q:Qry) (up:Bool) (i:Int):Nat->List Dec->Bd->Bd
 |_,[],b=>b| k,d::r,b=>inG q up i (k+1) r (if d.k=(if up=true then 4 else 3)/\d.i=i/\d.fits q=true/\0<(if up=true then -1 else 1)*uM d.x.q b.1.q then (d.x,[(⟨4,k,0,0⟩,1)]) else b)
def Scp.inB (s:Scp) (i:Int) (up:Bool):Bd :=
 inG s.q up i 0 s.path (if up=true then ((s.q.r.hi[i.toNat]?).getD R0,[(⟨2,i,0,0⟩,1)]) else ((s.q.r.lo[i.toNat]?).getD R0,[(⟨1,i,0,0⟩,1)]))
def Scp.vLo (s:Scp) (j:Int):Rat:=qL s.lems (s.best j).1
def Scp.vHi (s:Scp) (j:Int):Rat:=qL s.lems (s.best j).2
def Scp.leB (s:Scp) (j:Int):Bd :=
 if (s.best j).1=0\/yB (s.vLo j)<=0 then (R0,[(⟨5,j,0,0⟩,1)]) else (zI (s.vLo j),[(⟨6,j,0,0⟩,1),(⟨11,j,(s.best j).1,0⟩,1)])
def Scp.offR (s:Scp) (j:Int):Row×Bool :=
 if s.dcd 2 j=true then (⟨10,j,0,0⟩,true) else (⟨10,j,0,(s.best j).2⟩,decide (0<(s.best j).2)&&decide (yB (s.vHi j)<=0))
def Scp.onR (s:Scp) (j:Int):Row×Bool :=
 if s.dcd 1 j=true then (⟨8,j,0,0⟩,true) else (⟨8,j,(s.best j).1,0⟩,decide (0<(s.best j).1)&&decide (0<=yB (s.vLo j)))
def Scp.moB (s:Scp) (j:Int):Option Bd :=
 if (s.offR j).2=true then some (R0,[((s.offR j).1,1)])
 else if (s.best j).2=0\/((s.onR j).2=false/\(s.best j).1=0) then none
 else if (s.onR j).2=true then some (zI (s.vHi j),[((s.onR j).1,1),(⟨12,j,0,(s.best j).2⟩,1)])
 else some (zI (s.vHi j),[(⟨12,j,0,(s.best j).2⟩,(1/(s.vHi j-s.vLo j))*s.vHi j),(⟨13,j,(s.best j).1,(s.best j).2⟩,1/(s.vHi j-s.vLo j))])
def Scp.ofB (s:Scp) (v:Int) (up:Bool):Option Bd :=
 if v<s.q.g.n then some (s.inB v up) else if up=true then s.moB (v-s.q.g.n) else some (s.leB (v-s.q.g.n))
def Scp.boxL (s:Scp):List (Int×Rat)->Rat->List (Row×Rat)->Option (Rat×List (Row×Rat))
 |[],a,l=>some (a,l)
 |t::r,a,l=>match s.ofB t.1 (decide (yB t.2<0)) with
  |none=>none| some b=>s.boxL r (a+t.2*b.1.q) (xS l b.2 (vG t.2))
def Scp.box (s:Scp) (f:F):Option (Rat×List (Row×Rat)):=s.boxL f.ts f.c []
def lM (l u:Rat):Bool:=decide (yB l<0)&&decide (0<yB u)
def aD (l u:Rat):Bool:=lM l u&&decide (0<yB (l+u))
def F.subst (f:F) (v:Int) (g:F):F:=F.add ⟨xK v (-(co f.ts v)) false f.ts,f.c⟩ (g.scale (co f.ts v))
def Scp.repl (s:Scp) (p:F) (c:Rat) (j:Int):Option (Row×F×Rat) :=
 if (s.onR j).2=true then some ((if 0<yB c then ⟨6,j,0,0⟩ else (s.onR j).1),p,vG c)
 else if (s.offR j).2=true then some ((if yB c<0 then (s.offR j).1 else ⟨5,j,0,0⟩),F.zero,vG c)
 else if 0<yB c then
  (if 0<(s.best j).1/\0<(s.best j).2/\aD (s.vLo j) (s.vHi j)=true then some (⟨6,j,0,0⟩,p,vG c) else some (⟨5,j,0,0⟩,F.zero,vG c))
 else if (s.best j).1=0\/(s.best j).2=0 then none
 else some (⟨13,j,(s.best j).1,(s.best j).2⟩,(p.scale (s.vHi j/(s.vHi j-s.vLo j))).add (F.num (-(s.vLo j*s.vHi j)/(s.vHi j-s.vLo j))),vG c/(s.vHi j-s.vLo j))
def Scp.rep1 (s:Scp) (p:F) (j:Nat) (x:F×List (Row×Rat)):Option (F×List (Row×Rat)) :=
 if yB (co x.1.ts (s.q.g.n+j))=0 then some x
 else match s.repl p (co x.1.ts (s.q.g.n+j)) j with
  |none=>none| some y=>some (x.1.subst (s.q.g.n+j) y.2.1,plMq x.2 y.1 y.2.2)
def Scp.backG (s:Scp):Nat->F×List (Row×Rat)->Option (F×List (Row×Rat))
 |0,x=>some x
 |j+1,x=>match s.q.g.us[j]? with
  |none=>none
  |some p=>match s.rep1 p.f j x with
   |none=>none| some y=>s.backG j y
def Scp.back (s:Scp) (f:F):Option (F×List (Row×Rat)):=s.backG s.q.g.us.length (f,[])
def oVq (o:Option (Rat×List (Row×Rat))):Rat:=(o.map Prod.fst).getD 0
def oL (o:Option (Rat×List (Row×Rat))):List (Row×Rat):=(o.map Prod.snd).getD []
def Scp.low (s:Scp) (f:F):Option (Rat×List (Row×Rat)):=(s.back f).map λg=>(oVq (s.box g.1),xS g.2 (oL (s.box g.1)) 1)
def Scp.dom (s:Scp) (n:Nat) (f:F):Option (Rat×List (Row×Rat)) :=
 if n=0\/(n=2/\(s.box f).isSome=true/\((s.low f).isSome=false\/0<=uM (oVq (s.box f)) (oVq (s.low f)))) then s.box f else s.low f
def Scp.strg (s:Scp) (u:Int) (up:Bool) (x:Rat):Bool :=
 if up=true then decide ((s.best u).2=0\/uM x (s.vHi u)<0) else decide ((s.best u).1=0\/0<uM x (s.vLo u))
def runL (s:Scp) (u:Int) (up:Bool) (o:Option (Rat×List (Row×Rat))):List Lem :=
 match o with
 |none=>[]| some v=>if s.strg u up (if up=true then -v.1 else v.1)=true then [⟨u,up,zI (if up=true then -v.1 else v.1),mR v.2⟩] else []
def runS (n:Nat) (s:Scp) (u:Int) (up:Bool) (f:F):Scp:=⟨s.q,s.path,s.lems++runL s u up (s.dom n f)⟩
def runG (n:Nat):List A->Nat->Scp->Scp
 |[],_,s=>s| p::r,j,s=>runG n r (j+1) (runS n (runS n s j false p.f) j true (p.f.scale (-1)))
def Scp.run (s:Scp) (n:Nat):Scp:=runG n s.q.g.us 0 s
def y8 (raw:List UInt8):Nat:=(raw.map UInt8.toNat).sum
def ext (raw:List UInt8):Scp:=if 0<y8 raw%3 then (fdS raw).bounded else fdS raw
def dvd (raw:List UInt8):Scp:=if y8 raw%5<3 then (ext raw).run (y8 raw%5) else ext raw
def Scp.opn (s:Scp) (j:Int):Bool:=!(s.dcd 1 j || (decide (0<(s.best j).1)&&decide (0<=yB (s.vLo j)))) && !(s.dcd 2 j || (decide (0<(s.best j).2)&&decide (yB (s.vHi j)<=0)))
def opnG (n:Nat):Nat->Nat->Scp->Scp
 |0,_,s=>s| k+1,j,s=>opnG n k (j+1) (if s.opn j=true/\(n+7*j)%4<2 then ⟨s.q,s.path++[⟨1+((n+7*j)%4:Nat),j,R0⟩],s.lems⟩ else s)
def rG (f:A) (x:Rat):A:=if x<0 then ⟨f.ts,zI (f.c.q-x)⟩ else f
def jS (raw:List UInt8):Scp :=
 let s1:=(dvd raw).run (y8 raw%3)
 let s2:=opnG (y8 raw) s1.q.g.us.length 0 s1
 if y8 raw%2=0 then s2.run 1 else s2
def iJ (raw:List UInt8):Option (Rat×List (Row×Rat)):=(jS raw).dom 2 (jS raw).q.goal.f
def clo (raw:List UInt8):Scp:=⟨⟨(jS raw).q.g,(jS raw).q.r,rG (jS raw).q.goal (oVq (iJ raw))⟩,(jS raw).path,(jS raw).lems⟩
def X3 (raw:List UInt8):List (Row×Rat):=oL (iJ raw)
end Go.Proofs.YtaeaffgjdcigoaaGreat
