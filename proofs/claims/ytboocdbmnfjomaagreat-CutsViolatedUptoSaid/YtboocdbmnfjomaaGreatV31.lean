/- A part of the proof: RuI, SpV, UtB, RuJ, SpW, RuK, AlA. -/
import Derived.Test.YtboocdbmnfjomaaGreatV30
import Derived.Test.YtboocdbmnfjomaaGreatV28
import Derived.Test.YtboocdbmnfjomaaGreatV27
import Derived.Test.YtboocdbmnfjomaaGreatV22
import Derived.Test.YtboocdbmnfjomaaGreatV29
import Derived.Test.YtboocdbmnfjomaaGreatV26
import Derived.Test.YtboocdbmnfjomaaGreatV23
set_option linter.all false
namespace Go.Proofs.YtboocdbmnfjomaaGreat
open Go
set_option maxRecDepth 100000
set_option maxHeartbeats 4000000
structure AbvOk (s:Scp) (f:F):Prop where
 cn:Cn f.ts
 fl:f.fl (2^20) (2^30)
 v:∀ t,t∈f.ts->-4611686018427387904<=t.1/\t.1<4611686018427387904
 pre:∀ i l,s.aboveL (f.ts.take i) []=some l->(∀ t,t∈l->Fits (2^28) t.2)/\l.length<=2^36
 most:∀ t,t∈f.ts->∀ more,s.atMostM t.1=some more->(∀ x,x∈more->Fits (2^20) x.2)/\more.length<=32
 sum:∀ l,s.aboveL f.ts []=some l->SumOk s (mR l)
def Ys {s:Scp}{t:Int×Rat}{more:List (Row×Rat)}(ht:(if 0<yG t.2 then some (s.atLeastM t.1) else s.atMostM t.1)=some more):∀ {ts:List (Int×Rat)} {l l':List (Row×Rat)},s.aboveL ts l=some l'->s.aboveL (ts++[t]) l=some (gZ l' more (aO t.2))
 |[],l,l',h=>by cases h;rw[Ab];unfold Scp.aboveL;rw[ht];rfl
 |x::r,l,l',h=>by
  rw[Vm];unfold Scp.aboveL at h ⊢;cases hx:(if 0<yG x.2 then some (s.atLeastM x.1) else s.atMostM x.1) with
  |none=>grind| some g =>
   rw[hx] at h;exact Ys ht h
def Fx (s:Scp)(v:Int):(∀ x,x∈s.atLeastM v->Fits (2^20) x.2)/\(s.atLeastM v).length<=32:=by unfold Scp.atLeastM;split <;> refine⟨λx hx=>?_,by simp⟩ <;> (obtain rfl:=fZ.1 hx;exact fits_one.mono (by decide))
def HZ (s:Scp)(f:F)(hs:s.sz (2^20))(hn:0<=s.q.g.n)(hn2:s.q.g.n<=256)(hok:AbvOk s f):zH 77 [sv s,fv f] (.tup [rv (zK (((s.above f).map Prod.fst).getD 0)),mlv (mR (((s.above f).map Prod.snd).getD [])),zM ((s.above f).isSome)]):=by
 refine sF Tryz.f77 ?_;have cam:∀ t,t∈f.ts->zH 120 [sv s,iV t.1] (.tup [mlv (mR ((s.atMostM t.1).getD [])),zM ((s.atMostM t.1).isSome)]):=λt ht=>PA s t.1 hs.lems (hok.v t ht).1 (hok.v t ht).2 hn hn2;have cal:∀ t,t∈f.ts->zH 121 [sv s,iV t.1] (mlv (mR (s.atLeastM t.1))):=λt ht=>PB s t.1 (hok.v t ht).1 (hok.v t ht).2 hn hn2;have csg:∀ t,t∈f.ts->zH 26 [rv (zK t.2)] (iV (yG t.2)):=λt ht=>by have:=s35 (zK t.2) (xR (z5 (hok.fl.t t ht)).n (by decide));grind [yD]
 have cmg:∀ t,t∈f.ts->∀ a b,(∀ t,t∈a->Fits (2^28) t.2)->a.length<=2^36->(∀ t,t∈b->Fits (2^20) t.2)->b.length<=32->zH 122 [mlv (mR a),mlv (mR b),.agg [zM false,nat (zK t.2).num,nat (zK t.2).den]] (mlv (mR (gZ a b (aO t.2)))):=λt ht a b h1 h2 h3 h4=>by
  (have:=A9 a b ⟨false,(zK t.2).num,(zK t.2).den⟩ h1 h2 (λt ht=>(h3 t ht).mono (by decide)) h4 (by rw[oE];exact z5 (lF (hok.fl.t t ht)));have e:(⟨false,(zK t.2).num,(zK t.2).den⟩:R).q=aO t.2:=by rw[oE,yD]);simp_all
 have cfin:∀ l,s.aboveL f.ts []=some l->zH 123 [sv s,mlv (mR l)] (.tup [fv (s.sum (mR l)).2,iV ((s.sum (mR l)).1)])/\zH 90 [fv f,fv (s.sum (mR l)).2] (fv (f.sub (s.sum (mR l)).2)):=λl hl =>
  ⟨A8 s (mR l) hs (hok.sum l hl),VC hok.cn (Scp.sum_can s _) hok.fl (Scp.sum_fl' (hok.sum l hl)) (by decide) (by decide) (by decide) (by decide)⟩
 have hab:s.above f=(s.aboveL f.ts []).map λl=>((f.sub (s.sum (mR l)).2).c,l):=rfl;rw[hab];obtain⟨o,ho⟩:=ex (s.aboveL f.ts []);rw[ho] at cfin ⊢;obtain⟨AL,hAL⟩:=ex s.aboveL;have hTn:∀ l,AL [] l=some l:=λl=>by rw[<-hAL];rfl
 have hTc:∀ t r l,AL (t::r) l=match (if 0<yG t.2 then some (s.atLeastM t.1) else s.atMostM t.1) with
  |none=>none| some more=>AL r (gZ l more (aO t.2)):=λt r l=>by rw[<-hAL];rfl
 obtain⟨PR,hPR⟩:∃ PR:Nat->List (Row×Rat)->Prop,∀ i l,PR i l=(s.aboveL (f.ts.take i) []=some l):=⟨_,λ_ _=>rfl⟩;have hPRs:∀ i t more l,f.ts[i]?=some t->(if 0<yG t.2 then some (s.atLeastM t.1) else s.atMostM t.1)=some more->PR i l->PR (i+1) (gZ l more (aO t.2)):=λi t more l h1 h2 h3=>by rw[hPR] at h3 ⊢;rw[Y6 h1];exact Ys h2 h3
 have hPR0:PR 0 []:=by rw[hPR];rfl
 have hpre:∀ i l,PR i l->(∀ t,t∈l->Fits (2^28) t.2)/\l.length<=2^36:=λi l h=>hok.pre i l (by grind);have hmost:=hok.most;rw[hAL] at ho;have hfl:f.ts.length<2^38:=by have:=hok.fl.len;omega
 obtain⟨V,hV⟩:=ex (fA f);have hVt:∀ (i:Nat) t,f.ts[i]?=some t->V.ts[i]?=some (t.1,zK t.2):=λi t h=>by rw[<-hV];show (tR f.ts)[i]?=_;simp[tR,jJ,h]
 have hVl:V.ts.length=f.ts.length:=by rw[<-hV];exact vR _
 have hfv:fv f=av V:=by rw[<-hV]
 rw[hfv] at cfin ⊢;obtain⟨W,hW⟩:∃ W,zK (((o.map λl=>((f.sub (s.sum (mR l)).2).c,l)).map Prod.fst).getD 0)=W:=⟨_,rfl⟩;obtain⟨RL,hRL⟩:∃ W,mR (((o.map λl=>((f.sub (s.sum (mR l)).2).c,l)).map Prod.snd).getD [])=W:=⟨_,rfl⟩;obtain⟨bb,hbb⟩:∃ W,(o.map λl=>((f.sub (s.sum (mR l)).2).c,l)).isSome=W:=⟨_,rfl⟩;rw[hW,hRL,hbb];have gN:o=none->W=R0/\RL=[]/\bb=false:=λh=>by rw[h] at hW hRL hbb;exact⟨hW.symm.trans uI,hRL.symm,hbb.symm⟩
 have gS:∀ l,o=some l->W=zK (f.sub (s.sum (mR l)).2).c/\RL=mR l/\bb=true:=λl h=>by rw[h] at hW hRL hbb;exact⟨hW.symm,hRL.symm,hbb.symm⟩
 clear hW hRL hbb hab hAL hPR hok hV hfv;obtain⟨w1,w2,w3⟩:=W;have gN':o=none->w1=false/\w2=[]/\w3=[]/\RL=[]/\bb=false:=λh=>by grind
 clear gN;cbv;refine zY (σ:=Nat×List (Row×Rat)) (λst=>⟨[(2,.ptr 2 0),(3,.ptr 3 0),(4,.ptr 4 0),(7,mlv (mR st.2)),(8,iV st.1)],[(2,.box (sc s)),(3,.box [tsv V.ts,zM V.c.neg,nat V.c.num,nat V.c.den]),(4,.box [.ff,.nil,.nil])]⟩)
  (λst=>st.1<=f.ts.length/\AL (f.ts.drop st.1) st.2=o/\PR st.1 st.2) (λst=>f.ts.length-st.1)
  (0,[]) ⟨xO _,ho,hPR0⟩ (wkZ) ?_
 intro st hst;obtain⟨i,acc⟩:=st;obtain⟨h1,h2,h4⟩:=hst;dsimp only at h1 h2 h4;clear ho hPR0;have h3:=hpre i acc h4;cbv;refine zG (λh5=>?_) (λh5=>?_)
 ·(rw[zB,hVl] at h5;have hlt:i<f.ts.length:=by exact om);obtain⟨t,ht⟩:=yB hlt
  have hmem:=yE ht;have hx:=hVt i t ht;have cam':=cam t hmem;have cal':=cal t hmem;have csg':=csg t hmem;have hmo:=hmost t hmem;have cmg':=cmg t hmem;obtain⟨X,hX⟩:=ex (zK t.2);simp only[hX] at cmg';rw[hX] at hx csg';clear cam cal csg cmg hmost hVt cfin gS;generalize hsg:yG t.2=sg at *;cbv;refine xL hx wP wH ?_;cbv;refine cA cam' ?_;cbv;refine cA csg' ?_;cbv;refine zG (λe1=>?_) (λe1=>?_)
  ·(have HM:(if 0<yG t.2 then some (s.atLeastM t.1) else s.atMostM t.1)=some (s.atLeastM t.1):=by rw[hsg,if_pos e1]);have hls:=Fx s t.1
   (have hPn:=hPRs i t _ acc ht HM h4;have hn':AL (f.ts.drop i) acc=AL (f.ts.drop (i+1)) (gZ acc (s.atLeastM t.1) (aO t.2)):=by rw[yJ ht,hTc,HM]);rw[hn'] at h2
   have cm:=cmg' acc _ h3.1 h3.2 hls.1 hls.2;clear HM hTc hPRs hn' hls;generalize s.atLeastM t.1=more at *;generalize gZ acc more (aO t.2)=acc' at *;cbv;refine cA cal' ?_;cbv;refine cA cm ?_;cbv;exact⟨zE om om,(i+1,acc'),⟨om,h2,hPn⟩,om,wkZ⟩
  ·(have HM0:(if 0<yG t.2 then some (s.atLeastM t.1) else s.atMostM t.1)=s.atMostM t.1:=by rw[hsg,if_neg e1]);cases hoo:s.atMostM t.1 with
   |none =>
    (have hz:o=none:=by rw[<-h2,yJ ht,hTc,HM0,hoo]);obtain⟨q1,q2,q3,q4,q5⟩:=gN' hz
    subst q1 q2 q3 q4 q5;cbv;refine zZ (λe=>absurd e (by simp)) (λ_=>?_);cbv;exact rA
   |some more =>
    (have hls:=hmo more hoo;have hPn:=hPRs i t more acc ht (HM0.trans hoo) h4;have hn':AL (f.ts.drop i) acc=AL (f.ts.drop (i+1)) (gZ acc more (aO t.2)):=by rw[yJ ht,hTc,HM0,hoo]);rw[hn'] at h2
    (have cm:=cmg' acc more h3.1 h3.2 hls.1 hls.2;have hg:(s.atMostM t.1).getD []=more:=by rw[hoo];rfl);clear HM0 hTc hPRs hn' hls
    generalize gZ acc more (aO t.2)=acc' at *;cbv;refine zZ (λ_=>?_) (λe=>absurd e (by simp));cbv;refine xI rfl (by exact⟨lR,zU rfl,okA,trivial⟩) cm rfl ?_;cbv;exact⟨zE om om,(i+1,acc'),⟨om,h2,hPn⟩,om,wkZ⟩
 ·(have hi:i=f.ts.length:=by rw[zB,hVl] at h5;exact om);rw[hi,vE,hTn] at h2
  obtain⟨c1,c2⟩:=cfin acc h2.symm;obtain⟨q1,q2,q3⟩:=gS acc h2.symm;subst q2 q3
  (try dsimp only [fv] at c1 c2)
  have e1:fA (f.sub (s.sum (mR acc)).2)=⟨tR (f.sub (s.sum (mR acc)).2).ts,zK (f.sub (s.sum (mR acc)).2).c⟩:=rfl;rw[e1,<-q1] at c2;generalize tR (f.sub (s.sum (mR acc)).2).ts=TT at *;generalize fA (s.sum (mR acc)).2=SS at *;generalize (s.sum (mR acc)).1=code at *;clear q1 e1 gS gN' cfin;cbv;refine cA c1 ?_;cbv;refine cA c2 ?_;cbv;exact rA
theorem Wt.take {s:Scp}:∀ {l:List (Row×Rat)} {N:Nat},Wt s l N->∀ i,∃ M,M<=N/\Wt s (l.take i) M
 |_,_,.nil,i=>⟨0,yQ _,by rw[List.take_nil];exact .nil⟩| _,_,.cons hk hg h,0=>⟨0,xO _,by rw[QJ];exact .nil⟩| _,_,.cons (k:=k) (g:=g) (N:=N) hk hg h,i+1=>by obtain⟨M,h1,h2⟩:=h.take i;exact⟨k+g+5+M,by omega,by rw[GM];exact .cons hk hg h2⟩
theorem Wt.fmem {s:Scp}:∀ {l:List (Row×Rat)} {N:Nat},Wt s l N->∀ t,t∈l->∀ f,s.fm t.1=some f->f.fl N 3000
 |_,_,.nil,t,ht=>absurd ht (by simp)| _,_,.cons hk hg h,t,ht=>by rcases yS.1 ht with rfl|ht;{exact λf hf=>(hg f hf).mono oM (yQ _)};{exact λf hf=>(h.fmem t ht f hf).mono oM (yQ _)}
theorem Wt.sumOk {s:Scp}{l:List (Row×Rat)}{N:Nat}(h:Wt s l N)(hN:N<2^26)(hf:∀ t,t∈l->∀ f,s.fm t.1=some f->f.fl (2^24) 3000)(hc:∀ t,t∈l->Fits (2^20) t.2)(hl:l.length<=100000):SumOk s (mR l) where
 fm m hm f hf':=by obtain⟨t,ht,rfl⟩:=y9.1 hm;exact (hf t ht f hf').mono (yQ _) (by decide)
 c:=⟨by rw[qL];omega,λm hm=>by obtain⟨t,ht,rfl⟩:=y9.1 hm;exact (z5 (hc t ht)).mono (by decide)⟩
 pre i acc ha:=by
  (obtain⟨M,h1,h2⟩:=h.take i;rw[St] at ha;have:=h2.sumL zero_fl ha;have hl2:(l.take i).length<=l.length:=by rw[xP];omega);exact this.mono oM oM
theorem Wt.sumOk' {s:Scp}{l:List (Row×Rat)}{N:Nat}(h:Wt s l N)(hN:N<=2^20)(hl:l.length<=100000):SumOk s (mR l) :=
 h.sumOk (xR hN (by decide)) (λt ht f hf=>(h.fmem t ht f hf).mono (vF hN (by decide)) (yQ _)) (λt ht=>(h.mem t ht).mono hN) hl
def Jx {s:Scp}{x:FQry}(hq:s.q=x.q)(hx:x.small)(hL:LB KK s.lems){f:F}{j:Nat}(hj:j<=3)(hf:f.fl 46 7)(hw:f.wf ((x.g.n+j:Nat):Int)):AbvOk s f:=by
 have ok:=Rz hx.g.n1 hx.g.n2 hj;have kl:=Jy j;have hn:=hx.g.n2;have hv:∀ t,t∈f.ts->((0:Nat):Int)<=t.1/\t.1<((x.g.n+j:Nat):Int):=λt ht=>by have:=hw.v t ht;omega
 have key:∀ i l,s.aboveL (f.ts.take i) []=some l->∃ M,M<=2^20/\Wt s l M/\l.length<=14:=λi l h=>by
  (obtain⟨M,h1,h2⟩:=Z5 hq hx QN hL (hi:=x.g.n+j) (lo:=0) (hw.cn.take i) (λt ht=>hv t (nC ht)) (λt ht=>hf.t t (nC ht)) (xO _) .nil h;have h3:=eD h;have h4:=hf.len;have h5:(f.ts.take i).length<=f.ts.length:=by rw[xP];omega);have h6:lJ KK x.g.n 0=0:=rfl
  (simp only[dU] at h3;refine⟨M,?_,h2,by omega⟩;have:(679650:Nat)<=2^20:=by decide);omega
 refine⟨hw.cn,hf.mono (by decide) (by decide),λt ht=>?_,λi l h=>?_,λt ht more h=>?_,λl h=>?_⟩;{have:=hv t ht;omega};{obtain⟨M,h1,h2,h3⟩:=key i l h;exact⟨λt ht=>(h2.mem t ht).mono (vF h1 (by decide)),by omega⟩}
 ·(obtain⟨v,hv1⟩:∃ v:Nat,t.1=v:=⟨t.1.toNat,by have:=hv t ht;omega⟩;rw[hv1] at h;obtain⟨B,h1,h2⟩:=Gb hq hx QN hL v h;have h3:=Kq h;refine⟨λu hu=>(h2.mem u hu).mono ?_,by omega⟩;have hlt:v+1<=x.g.n+j:=by have:=hv t ht;omega);have h4:=ZP (K:=KK) (n:=x.g.n) hlt
  (have h5:lJ KK x.g.n (v+1)=lJ KK x.g.n v+cst KK x.g.n v:=rfl;have:(679650:Nat)<=2^20:=by decide);omega
 {have hfull:f.ts.take f.ts.length=f.ts:=vV;obtain⟨M,h1,h2,h3⟩:=key f.ts.length l (by rw[hfull];exact h);exact h2.sumOk' h1 oM}
def BX {t:TypeId}{base x:Operand}{d:Option Nat}{ps ps':PS}{K:PS->Prop}(hw:Wk ps ps')(h:AppK t base x d ps' K):AppK t base x d ps K:=by rcases h.h with h|h;{obtain⟨p,a1,a2,a3,a4,a5,a6,a7,a8⟩:=h.h;exact⟨.inl ⟨p,a1,a2,a3,a4,a5,a6,.trans hw a7,a8⟩⟩};{obtain⟨p,a1,a2,a3,a4,a5,a6,a7,a8,a9,b1,b2,b3,b4,b5,b6⟩:=h.h;exact⟨.inr ⟨p,a1,a2,a3,a4,a5,a6,a7,a8,a9,b1,b2,b3,b4,.trans hw b5,b6⟩⟩}
def pG {α:Type}(p:α->List PV)(l:List α):((enc p l).drop 0).take l.length=enc p l:=by rw[vS,<-zB p l,vV]
def ZM {α:Type}(p:α->List PV)(l:List α):0+l.length<=(enc p l).length:=by rw[zB];omega
def Dm:ty 41=.sli 6 96 [iV 0,.ff,.ff,.nil,.nil,.nil]:=by cbv
def kV (b:Bool) (j:Int) (up:Bool) (v:R) (l:List Mult):List Lem:=if b=true then [⟨j,up,v,l⟩] else []
def GG (j:Int)(x y:Option (Rat×List (Row×Rat))):Qt j x y=kV x.isSome j false (zK ((x.map Prod.fst).getD 0)) (mR ((x.map Prod.snd).getD []))++kV y.isSome j true (zK (-(zK ((y.map Prod.fst).getD 0)).q)) (mR ((y.map Prod.snd).getD [])):=by unfold Qt kV;grind [yD]
def Uc (L:List Lem)(m:Lem):enc lc (L++[m])=enc lc L++zI [lc m]:=by simp[enc,zI]
def Td {q:Qry}{P:List Dec}(h:(⟨q,P,[]⟩:Scp).sz (2^20)){L:List Lem}{j:Nat}(hj:j<=4)(hL:Lok L j):(⟨q,P,L⟩:Scp).sz (2^20):=by refine⟨h.q,h.path,⟨by have:=hL.len;grind,λm hm=>?_,λm hm=>(hL.pf m hm).1.mono (by decide)⟩⟩;obtain⟨q,hq⟩:=hL.v m hm;obtain⟨i,_,hf⟩:=hL.lb m hm;rw[hq,yD] at hf;rw[hq];exact z5 (hf.mono (vF (Jy i) (by decide)))
structure BndF (q:Qry) (P:List Dec) (j:Nat) (L:List Lem) (p p2:A) (xv yv zv:R) (xl yl:List Mult) (xb yb:Bool):Prop where
 c1:zH 77 [sv ⟨q,P,L⟩,av p] (.tup [rv xv,mlv xl,zM xb])
 c2:zH 24 [av p,rv (zK ((-1:Int):Rat))] (av p2)
 c3:zH 77 [sv ⟨q,P,L⟩,av p2] (.tup [rv yv,mlv yl,zM yb])
 c4:yb=true->zH 78 [rv yv] (rv zv)
 lok:Lok (L++(kV xb j false xv xl++kV yb j true zv yl)) (j+1)
 g:∀ r,Vj q P (p::r) j L=Vj q P r (j+1) (L++(kV xb j false xv xl++kV yb j true zv yl))
def FV {x:FQry}(hx:x.small)(hwf:∀ (i:Nat) (f:F),x.g.us[i]?=some f->f.wf ((x.g.n+i:Nat):Int)){P:List Dec}(hP:(⟨x.q,P,[]⟩:Scp).sz (2^20)){j:Nat}{p:A}(hp:x.q.g.us[j]?=some p){L:List Lem}(hL:Lok L j):∃ p2 xv yv zv xl yl xb yb,BndF x.q P j L p p2 xv yv zv xl yl xb yb:=by
 have hp':(x.g.us.map fA)[j]?=some p:=hp;rw[jJ] at hp';cases hb:x.g.us[j]? with
 |none=>grind| some b =>
  (rw[hb] at hp';have hpb:p=fA b:=by grind);have hlt:=(w8.1 hb).1
  (have hj:j<=3:=by have:=hx.g.us;omega);have hf:=hx.g.uf b (yE hb)
  (have hw:=hwf j b hb;have hs:=Td hP (by omega:j<=4) hL;have n0:0<=x.q.g.n:=by show (0:Int)<=(x.g.n:Int);omega);have n1:x.q.g.n<=256:=by have:=hx.g.n2;show (x.g.n:Int)<=256;omega
  have a1:=HZ ⟨x.q,P,L⟩ b hs n0 n1 (Jx rfl hx hL.lb hj (hf.mono (by decide) (by decide)) hw);have a3:=HZ ⟨x.q,P,L⟩ (b.scale (-1)) hs n0 n1 (Jx rfl hx hL.lb hj ((hf.scale uZ).mono (by decide) (by decide)) hw.scale);have a2:=pT (q:=-1) hf uZ (by decide) (by decide) (by decide);obtain⟨l1,l2⟩:=Jg hx hwf (path:=P) hb hL;rw[GG] at l1;refine⟨fA (b.scale (-1)),_,_,_,_,_,_,_,⟨by simp_all,by simp_all,a3,λh=>?_,l1,λr=>?_⟩⟩
  ·refine MY _ ?_;cases hy:(⟨x.q,P,L⟩:Scp).above (b.scale (-1)) with
   |none=>grind| some v=>exact (z5 (l2 v hy)).mono (by decide)
  {rw[hpb];show Vj x.q P r (j+1) (L++Qt j ((⟨x.q,P,L⟩:Scp).above (fA b).f) ((⟨x.q,P,L⟩:Scp).above ((fA b).f.scale (-1))))=_;rw[dO,GG]}
def Sa (raw : List UInt8) : zH 30 [svN (fdS raw)] (sv (fdS raw).bounded) := by
  refine sF Tryz.f30 ?_
  have sm := j1 raw 0
  have hwf := Hm raw 0
  have hz : (fdS raw).sz (2^20) := by
    have g := U9 raw
    exact ⟨g.q.mono (by decide), ⟨g.path.len, fun d hd => (g.path.sz d hd).mono (by decide)⟩, ⟨by show 0 < 2^38; decide, fun m hm => absurd hm (by simp [fdS]), fun m hm => absurd hm (by simp [fdS])⟩⟩
  have hbg : (fdS raw).bounded = ⟨(fdY raw 0).1.q, (fdS raw).path, Vj (fdY raw 0).1.q (fdS raw).path (fdY raw 0).1.q.g.us 0 []⟩ := rfl
  have hsd : fdS raw = ⟨(fdY raw 0).1.q, (fdS raw).path, []⟩ := rfl
  rw [hbg]
  generalize (fdS raw).path = path at *
  rw [hsd] at hz ⊢
  have hF := fun j p L hp hL => FV (j := j) (p := p) (L := L) sm hwf hz hp hL
  clear hbg hsd hwf hz
  have hul : (fdY raw 0).1.q.g.us.length ≤ 4 := by show (List.map fA _).length ≤ 4; rw [yH]; exact sm.g.us
  clear sm
  generalize (fdY raw 0).1.q = Q at *
  have cof := s32 (-1) (by decide) (by decide)
  obtain ⟨M1, hM1⟩ := ex (zK ((-1 : Int) : Rat))
  have hF' : ∀ (j : Nat) (p : A) (L : List Lem), Q.g.us[j]? = some p → Lok L j → ∃ p2 xv yv zv xl yl xb yb, BndF Q path j L p p2 xv yv zv xl yl xb yb := hF
  clear hF
  obtain ⟨⟨n, us, os⟩, ⟨lo, hi', rows⟩, ⟨ts, c⟩⟩ := Q
  dsimp only at hF' hul
  rw [hM1] at cof
  obtain ⟨G, hG⟩ := ex (Vj ⟨⟨n, us, os⟩, ⟨lo, hi', rows⟩, ⟨ts, c⟩⟩ path)
  rw [hG]
  have hGn : ∀ j L, G [] j L = L := fun j L => by rw [← hG]; rfl
  obtain ⟨L9, hL9⟩ := ex (G us 0 [])
  rw [hL9]
  cbv
  refine dR 10 (by cbv) (by cbv) ?_
  cbv
  refine zY (σ := Nat × List Lem) (fun s => ⟨[(1, .ptr 1 0), (2, .ptr 2 0), (3, .ptr 3 0), (4, iV s.1)],
      [(1, .box [iV n, alv us, alv os, rlv lo, rlv hi', alv rows, tsv ts, zM c.neg, nat c.num, nat c.den, dlv path, .nil]), (2, .box [iV 0, .nil, .nil, .nil, .nil, .nil, .nil, .ff, .nil, .nil, .nil, .nil]), (3, .box [iV n, alv us, alv os, rlv lo, rlv hi', alv rows, tsv ts, zM c.neg, nat c.num, nat c.den, dlv path, zT 61 6 s.2.length]), (61, .lent 6 (fun _ => enc lc s.2))]⟩)
    (fun s => s.1 ≤ us.length ∧ G (us.drop s.1) s.1 s.2 = L9 ∧ Lok s.2 s.1) (fun s => us.length - s.1)
    (0, []) ⟨xO _, hL9, ⟨fun m hm => absurd hm (by simp), by simp, fun m hm => absurd hm (by simp), fun m hm => absurd hm (by simp)⟩⟩
    (.trans (wkZ (ps' := ⟨[(1, .ptr 1 0), (2, .ptr 2 0), (3, .ptr 3 0), (4, iV (((0 : Nat) : Int)))], [(1, .box [iV n, alv us, alv os, rlv lo, rlv hi', alv rows, tsv ts, zM c.neg, nat c.num, nat c.den, dlv path, .nil]), (2, .box [iV 0, .nil, .nil, .nil, .nil, .nil, .nil, .ff, .nil, .nil, .nil, .nil]), (3, .box [iV n, alv us, alv os, rlv lo, rlv hi', alv rows, tsv ts, zM c.neg, nat c.num, nat c.den, dlv path, .emp])]⟩))
    (.trans (.adoptB (ps := ⟨[(1, .ptr 1 0), (2, .ptr 2 0), (3, .ptr 3 0), (4, iV (((0 : Nat) : Int)))], [(1, .box [iV n, alv us, alv os, rlv lo, rlv hi', alv rows, tsv ts, zM c.neg, nat c.num, nat c.den, dlv path, .nil]), (2, .box [iV 0, .nil, .nil, .nil, .nil, .nil, .nil, .ff, .nil, .nil, .nil, .nil]), (3, .box [iV n, alv us, alv os, rlv lo, rlv hi', alv rows, tsv ts, zM c.neg, nat c.num, nat c.den, dlv path, .emp])]⟩) (cs := [iV n, alv us, alv os, rlv lo, rlv hi', alv rows, tsv ts, zM c.neg, nat c.num, nat c.den, dlv path, .emp]) 61 6 3 11 rfl rfl rfl)
    (.trans (.pub 61 rfl rfl) (.le okZ ?_ rfl)))) ?_
  · cbv
    exact ⟨okA, okA, okA, zC rfl, trivial⟩
  intro s hs
  obtain ⟨j, L⟩ := s
  obtain ⟨h1, h2, h3⟩ := hs
  dsimp only at h1 h2 h3
  clear hL9
  cbv
  refine zG (fun h => ?_) (fun h => ?_)
  · rw [zB] at h
    have hlt : j < us.length := by exact om
    obtain ⟨p, hp⟩ := yB hlt
    obtain ⟨p2, xv, yv, zv, xl, yl, xb, yb, F⟩ := hF' j p L hp h3
    have g2 := F.g (us.drop (j + 1))
    rw [hG, ← yJ hp, h2] at g2
    have c1 := F.c1
    have c2 := F.c2
    have c3 := F.c3
    have c4 := F.c4
    have lk := F.lok
    have lkL : L.length ≤ 8 := by have := h3.len; omega
    clear F hF' hG h2 h3 hGn
    rw [hM1] at c2
    have hT : ((enc lc L).drop 0).take L.length = enc lc L := by rw [vS, ← zB lc L, vV]
    have hfr : 0 + L.length ≤ (enc lc L).length := by grind [zB]
    have hLn := lkL
    cbv
    refine xL hp kX fI ?_
    cbv
    refine Hg 61 rfl (by cbv; repeat' first | exact trivial | exact ⟨hfr⟩ | apply And.intro) ?_
    cbv
    refine xI rfl (by exact ⟨⟨lR, lR, lR, lR, lR, lR, lR, lR, lR, lR, lR, zU hT, trivial⟩, okA, trivial⟩) c1 rfl ?_
    cbv
    refine uB 12 [(10, 9)] (by cbv) (by cbv) (by cbv) ?_
    cbv
    refine Hg 61 rfl (by cbv; repeat' first | exact trivial | exact ⟨hfr⟩ | apply And.intro) ?_
    cbv
    refine dA cof ?_
    cbv
    refine dA c2 ?_
    cbv
    refine wK (by exact ⟨⟨lR, lR, lR, lR, lR, lR, lR, lR, lR, lR, lR, zU hT, trivial⟩, okA, trivial⟩) c3 rfl ?_
    cbv
    refine cS (σ := List Lem) (fun Lx => ⟨[(1, .ptr 1 0), (2, .ptr 2 0), (3, .ptr 3 0), (4, iV j), (9, .ptr 9 0), (10, mlv yl), (11, zM yb)],
        [(1, .box [iV n, alv us, alv os, rlv lo, rlv hi', alv rows, tsv ts, zM c.neg, nat c.num, nat c.den, dlv path, .nil]), (2, .box [iV 0, .nil, .nil, .nil, .nil, .nil, .nil, .ff, .nil, .nil, .nil, .nil]), (3, .box [iV n, alv us, alv os, rlv lo, rlv hi', alv rows, tsv ts, zM c.neg, nat c.num, nat c.den, dlv path, zT 61 6 Lx.length]), (61, .log 6 (fun _ => enc lc Lx)), (9, .box [zM yv.neg, nat yv.num, nat yv.den])]⟩)
      (fun Lx => Lx = L ++ kV xb j false xv xl) (fun e => ?_) (fun e => ?_) (fun Lx hLx => ?_)
    · cbv
      refine Nb ?_
      cbv
      refine BX (.lend 61 4 rfl rfl trivial) ?_
      cbv
      refine Jj Dm rfl rfl rfl (by grind) rfl ⟨by simp [zI, y7]⟩ (zV oM (by simp [zI, zB]; exact om)) rfl ?_
      cbv
      refine ⟨L ++ [⟨j, false, xv, xl⟩], by unfold kV; grind, .le okZ ?_ rfl⟩
      cbv
      refine ⟨okA, okA, ⟨lR, lR, lR, lR, lR, lR, lR, lR, lR, lR, lR, zR rfl (by simp [zI, zB]), trivial⟩, zC ?_, okA, trivial⟩
      rw [Uc]
      rfl
    · cbv
      refine ⟨L, by unfold kV; grind, .le okZ ?_ rfl⟩
      cbv
      exact ⟨okA, okA, okA, zC rfl, okA, trivial⟩
    · have hxl : Lx.length ≤ 9 := by rw [hLx, alT53]; have : (kV xb j false xv xl).length ≤ 1 := by unfold kV; grind
                                     omega
      have g3 : L ++ (kV xb j false xv xl ++ kV yb j true zv yl) = Lx ++ kV yb j true zv yl := by grind
      rw [g3] at g2 lk
      clear g3 hLx c1 c2 c3 cof hT hfr
      cbv
      refine zZ (fun e => ?_) (fun e => ?_)
      · have g3 : kV yb j true zv yl = [⟨j, true, zv, yl⟩] := by unfold kV; grind
        rw [g3] at g2 lk
        have c4' := c4 e
        clear c4 g3
        cbv
        refine zP 8 (by cbv) ?_
        cbv
        refine dA c4' ?_
        cbv
        refine Jj Dm rfl rfl rfl (by simp [zB]) rfl ⟨by simp [zI, y7]⟩ (zV oM (by simp [zI, zB]; exact om)) rfl ?_
        cbv
        refine ⟨zE om om, (j + 1, Lx ++ [⟨j, true, zv, yl⟩]), ⟨om, g2.symm, lk⟩, om, .trans (.pub 61 rfl rfl) (.le okZ ?_ rfl)⟩
        cbv
        refine ⟨okA, okA, ⟨lR, lR, lR, lR, lR, lR, lR, lR, lR, lR, lR, zR rfl (by simp [zI, zB]), trivial⟩, zC ?_, trivial⟩
        rw [Uc]
        rfl
      · have g3 : kV yb j true zv yl = [] := by unfold kV; grind
        rw [g3, vM] at g2 lk
        clear c4 g3
        cbv
        refine ⟨zE om om, (j + 1, Lx), ⟨om, g2.symm, lk⟩, om, .trans (.pub 61 rfl rfl) (.le okZ ?_ rfl)⟩
        cbv
        exact ⟨okA, okA, okA, zC rfl, trivial⟩
  · have hj : j = us.length := by rw [zB] at h; exact om
    rw [hj, vE, hGn] at h2
    subst h2
    have hT : ((enc lc L).drop 0).take L.length = enc lc L := by rw [vS, ← zB lc L, vV]
    have hfr : 0 + L.length ≤ (enc lc L).length := by grind [zB]
    clear hF' hG hGn h3
    cbv
    refine Hg 61 rfl (by cbv; repeat' first | exact trivial | exact ⟨hfr⟩ | apply And.intro) ?_
    cbv
    (refine rC ?_; cbv)
    exact ⟨lR, lR, lR, lR, lR, lR, lR, lR, lR, lR, lR, zU hT, trivial⟩
def SF {s:Scp}{x:FQry}(hq:s.q=x.q)(hx:x.small)(hp:Dsz 43 s.path){r:Row}{f:F}(h:s.fIn r=some f):f.fl 200 3000:=by
 unfold Scp.fIn at h;split at h
 ·split at h
  ·cases hy:s.q.r.lo[r.i.toNat]? with
   |none=>rw[hy] at h;cases h
   |some y =>
    rw[hy] at h;cases h;have hm:=yE hy;rw[hq] at hm;obtain⟨b,hb,rfl⟩:=y9.1 hm;dsimp only;rw[yD];exact ((gR r.i).sub (j6 (hx.r.bf b hb).1)).mono oM oM
  ·split at h
   ·cases hy:s.q.r.hi[r.i.toNat]? with
    |none=>rw[hy] at h;cases h
    |some y =>
     rw[hy] at h;cases h;have hm:=yE hy;rw[hq] at hm;obtain⟨b,hb,rfl⟩:=y9.1 hm;dsimp only;rw[yD];exact ((j6 (hx.r.bf b hb).2).sub (gR r.i)).mono oM oM
   ·split at h
    ·cases hy:s.q.r.rows[r.i.toNat]? with
     |none=>rw[hy] at h;cases h
     |some y =>
      rw[hy] at h;cases h;have hm:=yE hy;rw[hq] at hm;obtain⟨b,hb,rfl⟩:=y9.1 hm;dsimp only;rw[dO];have:=hx.g.n2;exact ((hx.r.rf b hb).add zero_fl).mono oM oM
    {split at h;{split at h;{rename_i d hd;have hz:=(hp.sz d (yE hd)).fits (by decide);split at h;{split at h;{cases h;exact ((gR d.i).sub (j6 hz)).mono oM oM};{split at h;{cases h;exact (((gR d.i).sub (j6 hz)).scale uZ).mono oM oM};{cases h}}};{cases h}};{cases h}};{cases h}}
 {cases h}
def Tp {s:Scp}{x:FQry}(hq:s.q=x.q)(hx:x.small)(hp:Dsz 43 s.path)(hL:LB KK s.lems){r:Row}{f:F}(h:s.fm r=some f):f.fl 2718660 3000:=by
 by_cases h5:5<=r.k
 ·have h':=h;unfold Scp.fm at h';split at h';{cases h'};rw[if_neg oM] at h';unfold Scp.fUn at h';split at h'
  ·(rename_i hi;have hi':r.i=((r.i.toNat:Nat):Int):=by omega);exact (Bd hq hx QN hL h5 hi' h).mono (by have:=Jy r.i.toNat;omega) (yQ _)
  {cases h'}
 {unfold Scp.fm at h;split at h;{cases h};rw[if_pos oM] at h;exact (SF hq hx hp h).mono oM (yQ _)}
instance:DecidableEq A:=λa b=>if h:a.ts=b.ts/\a.c=b.c then isTrue (by obtain⟨x,y⟩:=a;obtain⟨x',y'⟩:=b;simp only at h;rw[h.1,h.2]) else isFalse (λe=>h (by rw[e];exact⟨rfl,rfl⟩))
def PD (s:Scp)(j:Int)(hs:s.sz (2^20)):zH 88 [sv s,iV j] (.tup [zM (s.onU j),zM (s.offU j)]):=by
 refine sF Tryz.f88 ?_;have cb:=Xo s j hs.lems;have cd1:=pR s 1 j (hs.path.mono (by decide));have cd2:=pR s 2 j (hs.path.mono (by decide));have csg:∀ m,m∈s.lems->zH 26 [rv m.v] (iV (yG m.v.q)):=λm hm=>s35 m.v (by have:=(hs.lems.sz m hm).n;omega);have hlen:=hs.lems.len;have hbb:∀ k:Nat,(k=(s.best j).1\/k=(s.best j).2)->k≠0->∃ m,s.lems[k-1]?=some m/\k-1<s.lems.length:=λk hk h0=>by obtain⟨m,hm,_⟩:=aV hk h0;exact⟨m,hm,(w8.1 hm).1⟩
 have hb1:=hbb _ (.inl rfl);have hb2:=hbb _ (.inr rfl);clear hbb;have hv:∀ (k:Nat) m,s.lems[k-1]?=some m->wO s.lems k=m.v.q:=λk m h=>by unfold wO;rw[h];rfl
 have hon:s.onU j=(s.dcd 1 j || (decide (0<(s.best j).1)&&decide (0<=yG (wO s.lems (s.best j).1)))):=rfl;have hoff:s.offU j=(s.dcd 2 j || (decide (0<(s.best j).2)&&decide (yG (wO s.lems (s.best j).2)<=0))):=rfl;generalize s.onU j=on at *;generalize s.offU j=off at *;generalize s.dcd 1 j=d1 at *;generalize s.dcd 2 j=d2 at *;generalize (s.best j).1=b1 at *;generalize (s.best j).2=b2 at *;have o11:d1=true->on=true:=λh=>by rw[hon,h];rfl
 have o12:d1=false->b1=0->on=false:=λh g=>by rw[hon,h,g];rfl
 have o13:d1=false->∀ m,s.lems[b1-1]?=some m->0<b1->on=decide (0<=yG m.v.q):=λh m hm g=>by rw[hon,h,hv b1 m hm,decide_eq_true g];rfl
 have o21:d2=true->off=true:=λh=>by rw[hoff,h];rfl
 have o22:d2=false->b2=0->off=false:=λh g=>by rw[hoff,h,g];rfl
 have o23:d2=false->∀ m,s.lems[b2-1]?=some m->0<b2->off=decide (yG m.v.q<=0):=λh m hm g=>by rw[hoff,h,hv b2 m hm,decide_eq_true g];rfl
 clear hon hoff hv hs;obtain⟨⟨⟨gn,us,os⟩,⟨lo,hi,rows⟩,⟨ts,c1,c2,c3⟩⟩,path,L⟩:=s;dsimp only at csg hlen hb1 hb2 o13 o23;cbv;refine cA cb ?_;cbv;refine cA cd1 ?_;cbv;refine yI (λeA=>?_) (λeA=>?_)
 ·have qA:=o11 eA;cbv;refine cA cd2 ?_;cbv;refine yI (λeB=>?_) (λeB=>?_)
  ·have qB:=o21 eB;cbv
   (refine rC ?_;cbv)
   exact⟨yN qA,yN qB,trivial⟩
  ·cbv;refine zX (λfB=>?_) (λfB=>?_)
   ·(have gB:b2≠0:=by exact om);obtain⟨mB,hmB,hlB⟩:=hb2 gB
    have qB:=o23 eB mB hmB oM;have csB:=csg mB (yE hmB);have ixB:∀ {K:List PV->Prop},K (lc mB)->IdxOk 6 (λ_=>enc lc L) (λ_=>(b2:Int)-1) K:=λhK=>u9 hmB oM kC j7 hK;generalize yG mB.v.q=sgB at *;cbv;refine⟨zE (by exact om) (by exact om),ixB ?_⟩;cbv;refine cA csB ?_;cbv
    (refine rC ?_;cbv)
    exact⟨yN qA,z4 qB.symm,trivial⟩
   ·have qB:=o22 eB (by exact om);cbv
    (refine rC ?_;cbv)
    exact⟨yN qA,zO qB,trivial⟩
 ·cbv;refine zX (λfA=>?_) (λfA=>?_)
  ·(have gA:b1≠0:=by exact om);obtain⟨mA,hmA,hlA⟩:=hb1 gA
   have qA:=o13 eA mA hmA oM;have csA:=csg mA (yE hmA);have ixA:∀ {K:List PV->Prop},K (lc mA)->IdxOk 6 (λ_=>enc lc L) (λ_=>(b1:Int)-1) K:=λhK=>u9 hmA oM kC j7 hK;generalize yG mA.v.q=sgA at *;cbv;refine⟨zE (by exact om) (by exact om),ixA ?_⟩;cbv;refine cA csA ?_;cbv;refine cA cd2 ?_;cbv;refine yI (λeB=>?_) (λeB=>?_)
   ·have qB:=o21 eB;cbv
    (refine rC ?_;cbv)
    exact⟨z4 qA.symm,yN qB,trivial⟩
   ·cbv;refine zX (λfB=>?_) (λfB=>?_)
    ·(have gB:b2≠0:=by exact om);obtain⟨mB,hmB,hlB⟩:=hb2 gB
     have qB:=o23 eB mB hmB oM;have csB:=csg mB (yE hmB);have ixB:∀ {K:List PV->Prop},K (lc mB)->IdxOk 6 (λ_=>enc lc L) (λ_=>(b2:Int)-1) K:=λhK=>u9 hmB oM kC j7 hK;generalize yG mB.v.q=sgB at *;cbv;refine⟨zE (by exact om) (by exact om),ixB ?_⟩;cbv;refine cA csB ?_;cbv
     (refine rC ?_;cbv)
     exact⟨z4 qA.symm,z4 qB.symm,trivial⟩
    ·have qB:=o22 eB (by exact om);cbv
     (refine rC ?_;cbv)
     exact⟨z4 qA.symm,zO qB,trivial⟩
  ·have qA:=o12 eA (by exact om);cbv;refine cA cd2 ?_;cbv;refine yI (λeB=>?_) (λeB=>?_)
   ·have qB:=o21 eB;cbv
    (refine rC ?_;cbv)
    exact⟨zO qA,yN qB,trivial⟩
   ·cbv;refine zX (λfB=>?_) (λfB=>?_)
    ·(have gB:b2≠0:=by exact om);obtain⟨mB,hmB,hlB⟩:=hb2 gB
     have qB:=o23 eB mB hmB oM;have csB:=csg mB (yE hmB);have ixB:∀ {K:List PV->Prop},K (lc mB)->IdxOk 6 (λ_=>enc lc L) (λ_=>(b2:Int)-1) K:=λhK=>u9 hmB oM kC j7 hK;generalize yG mB.v.q=sgB at *;cbv;refine⟨zE (by exact om) (by exact om),ixB ?_⟩;cbv;refine cA csB ?_;cbv
     (refine rC ?_;cbv)
     exact⟨zO qA,z4 qB.symm,trivial⟩
    ·have qB:=o22 eB (by exact om);cbv
     (refine rC ?_;cbv)
     exact⟨zO qA,zO qB,trivial⟩
end Go.Proofs.YtboocdbmnfjomaaGreat
