/- A part of the proof: KpL, KtA, KtB, KtC, KpM, KpN, KpO. -/
import Derived.Test.YtaeaffgjdcigoaaGreatG35
import Derived.Test.YtaeaffgjdcigoaaGreatG34
import Derived.Test.YtaeaffgjdcigoaaGreatG36
import Derived.Test.YtaeaffgjdcigoaaGreatG28
set_option linter.all false
namespace Go.Proofs.YtaeaffgjdcigoaaGreat
open Go
set_option maxRecDepth 100000
set_option maxHeartbeats 4000000
structure Cw (s:Scp) (p c:Nat):Prop where
 dp:∀ d,d∈s.path->d.x.sz 3
 v:s.q.valid=true
 qz:s.q.sz (2^14)
 pl:s.path.length<=p
 len:s.lems.length<=c
 l:∀ m,m∈s.lems->(∃ q,m.v=zG q)/\Msz (2^16) m.pf/\m.pf.length<=20
 lb:∀ m,m∈s.lems->Fits (2^13) m.v.q
 r:∀ (i:Nat) m,s.lems[i]?=some m->∀ y,y∈m.pf->RoIn ⟨s.q,s.path,s.lems.take i⟩ y.row
structure Cv (x:FQry) (s:Scp) (p c:Nat) extends Cw s p c where
 z:Isz x s
theorem Isz.lb13 {x:FQry}{s:Scp}(h:Isz x s):∀ m,m∈s.lems->Fits (2^13) m.v.q:=λm hm=>by obtain⟨i,_,hf⟩:=h.lb m hm;exact hf.mono (vR (Sk i) (by decide))
theorem Rv.cv {x:FQry}(hx:Sq x){s:Scp}{p c:Nat}(h:Rv x s p c):Cv x s p c:=by
 refine⟨⟨h.z.p,by rw[h.q];exact hx.s.valid hx.o,?_,h.pl,h.len,h.l,h.z.lb13,h.r⟩,h.z⟩;have hq:s.q.sz 43:=by rw[h.q];exact hx.s.sz
 exact hq.mono (by decide)
def KY {f:A}{N:Int}(h:f.valid N=true)(x:Rat):(dS f x).valid N=true:=by unfold dS;split;{unfold A.valid at *;simp only[yK] at *;grind [lE]};omega
def Ny (raw:List UInt8)(hv:Fits (2^13) (oVq (tV raw))):Cv (fdY raw 0).1 (clo raw) 7 32:=by
 have hx:=tQ raw;have h:=lW raw;have c:=h.cv hx;have hq:(jF raw).q.sz 43:=by rw[h.q];exact hx.s.sz
 refine⟨⟨h.z.p,?_,⟨hq.g.mono (by decide),hq.r.mono (by decide),?_⟩,h.pl,h.len,h.l,h.z.lb13,λi m hm y hy=>(h.r i m hm y hy).mono (yD _) (yD _)⟩,⟨h.z.g,h.z.r,h.z.p,h.z.pl,h.z.lb⟩⟩;{have:=c.v;unfold Qry.valid at this ⊢;simp only[yK] at this ⊢;exact⟨this.1,KY this.2 _⟩};{show (dS (jF raw).q.goal (oVq (tV raw))).sz _;unfold dS;split;{exact⟨hq.goal.t.mono (by decide),zT ((vC (hq.goal.c.fits (by decide)) hv).mono (by decide))⟩};{exact hq.goal.mono (by decide)}}
theorem Cw.usz {s:Scp}{p c:Nat}(h:Cw s p c)(hp:p<=1000)(hc:c<=1000):Usz s/\s.q.sz (2^20)/\Dsz (2^20) s.path/\s.sz (2^20)/\Psz s:=by have hpl:=h.pl;have hlen:=h.len;have hd:Dsz 3 s.path:=⟨by omega,h.dp⟩;have hd':∀ k,3<=k->Dsz k s.path:=λk hk=>⟨hd.len,λd hd'=>(hd.sz d hd').mono hk⟩;have hl:Lsz (2^20) s.lems:=⟨by omega,λm hm=>by obtain⟨q,hq⟩:=(h.l m hm).1;have hf:=h.lb m hm;rw[hq,zV] at hf;rw[hq];exact zT (hf.mono (by decide)),λm hm=>(h.l m hm).2.1.mono (by decide)⟩;exact⟨⟨h.qz.mono (by decide),hd' _ (by decide),hl,h.v⟩,h.qz.mono (by decide),hd' _ (by decide),⟨h.qz.mono (by decide),hd' _ (by decide),hl⟩,⟨h.qz.mono (by decide),hd' _ (by decide),h.v⟩⟩
theorem RoIn.rsm {s:Scp}{r:Row}(h:RoIn s r)(hl:s.lems.length<=1000):Rsm r:=by have h1:=h.i;have h2:=h.lo;have h3:=h.hi;exact⟨by omega,by omega,by omega⟩
theorem Cw.rows {s:Scp}{p c:Nat}(h:Cw s p c){m:Lem}(hm:m∈s.lems):∀ y,y∈m.pf->RoIn s y.row:=λy hy=>by obtain⟨i,hi⟩:=rK hm;exact (h.r i m hi y hy).mono (yD _) (by grind)
theorem Cw.lpf {s:Scp}{p c:Nat}(h:Cw s p c)(hc:c<=1000):Lpf s :=
 ⟨λm hm=>by have:=(h.l m hm).2.2;omega,λm hm y hy=>(h.rows hm y hy).rsm (vR h.len hc)⟩
theorem Cw.backs {s:Scp}{p c:Nat}(h:Cw s p c):s.backs:=λn m hm y hy=>by have:=h.r n m hm y hy;have h1:=this.lo;have h2:=this.hi;grind
def Y3 {α:Type}(P:α->Bool):∀ l:List α,wH P l<l.length
 |[]=>by show (-1:Int)<((0:Nat):Int);decide| a::r=>by have:=Y3 P r;rw[show wH P (a::r)=if P a then 0 else if wH P r<0 then -1 else wH P r+1 from rfl,bK];omega
def G7 {s:Scp}{r:Row}(h:RoIn s r):s.rowD r<s.path.length:=by unfold Scp.rowD Scp.fst;split;{rename_i e;exact h.p e};{split;{exact Y3 _ _};{split;{exact Y3 _ _};{omega}}}
theorem Cw.reachD {s:Scp}{p c:Nat}(h:Cw s p c){l:List Mult}(hl:∀ m,m∈l->RoIn s m.row){k:Int}(hk:cH s l k):k<s.path.length:=by
 rcases hk with⟨_,m,hm,e⟩|⟨n,hn,_,m,hm,e⟩;{rw[<-e];exact G7 (hl m hm)}
 ·rw[<-e];unfold Scp.pfn at hm;cases hx:s.lems[n.toNat]? with
  |none=>grind| some y =>
   rw[hx] at hm;exact G7 (h.rows (zX hx) m hm)
def T5 {l:List Nat}{b:Nat}(h:∀ n,n∈l->n<=b):l.sum<=l.length*b:=by
 induction l with
 |nil=>simp| cons a r ih =>
  have h1:=h a xV;have h2:=ih (λn hn=>h n (xQ _ hn));rw[List.sum_cons,bK,Nat.succ_mul];omega
theorem Cw.potv {s:Scp}{p c:Nat}(h:Cw s p c)(hc:c<=1000):pot s []<=1000*20/\um s []<=s.lems.length:=by
 have hlen:=h.len;have hf:∀ P:Nat->Bool,((List.range s.lems.length).filter P).length<=s.lems.length:=λP=>by grind
 refine⟨?_,hf _⟩;unfold Go.Proofs.YtaeaffgjdcigoaaGreat.pot;refine vR (T5 (b:=20) λn hn=>?_) ?_
 ·obtain⟨i,_,rfl⟩:=xA.1 hn;unfold Scp.pfn;cases hx:s.lems[((i:Int)).toNat]? with
  |none=>simp| some y=>exact (h.l y (zX hx)).2.2
 grind
theorem Cw.used {s:Scp}{p c:Nat}(h:Cw s p c)(hp:p<=1000)(hc:c<=1000){l:List Mult}(hl:∀ m,m∈l->RoIn s m.row)(hn:l.length<=100):zD 14 [sv s,mlv l] (.tup [zlv (wN (s.marks l).1),zlv (wN (s.marks l).2)]):=by
 obtain⟨u1,u2,u3,u4,u5⟩:=h.usz hp hc;obtain⟨p1,p2⟩:=h.potv hc;have hlen:=h.len;have hpl:=h.pl;obtain⟨a1,a2⟩:=Kx (s:=s) (l:=l);have w:wgt s ([],[])=0+pot s []:=rfl;have v:vol s ([],[])=0+um s []:=rfl;have hw:=Xn s s.lems.length l ([],[]) p2;have hv:=Xo s s.lems.length l ([],[]) p2;have hd:=λk=>h.reachD hl (k:=k);obtain⟨e1,e2⟩:=Sn h.backs hd;have:=Ez CC s l u5 (h.lpf hc) ⟨by omega,λm hm=>(hl m hm).rsm oM,by omega,by omega⟩ (λz hz=>by
  rcases hz with g|g
  ·(have g':=(a2 z).1 g;have h0:0<=z:=by rcases g' with g|⟨_,_,g⟩;{exact g.1};{exact g.1});grind
  ·have:=((a1 z).1 g).rng;omega) ⟨by
    have:(s9 s s.lems.length l ([],[])).1.length<=wgt s (s9 s s.lems.length l ([],[])):=Nat.le_add_right _ _;omega,by
    have:(s9 s s.lems.length l ([],[])).2.length<=vol s (s9 s s.lems.length l ([],[])):=Nat.le_add_right _ _;omega⟩ p2
 simp_all
def pA (x:yQ):List yQ->List yQ
 |[]=>[x]| y::r=>if x.1<y.1 then x::y::r else y::pA x r
def bC (c:List yQ) (x:yQ):List yQ:=if x∈c then c else pA x c
def mkR (l:List yQ):Option (List yQ):=if clG none (l.foldl bC [])=true then some (l.foldl bC []) else none
def Kz:ty 64=.sli 2 16 [iV 0,.ff]:=by cbv
def Og (c:List yQ)(x:yQ)(hc:c.length<2^30):zD 148 [jD c,ltv x] (jD (bC c x)):=by
 refine sF Tryz.f148 ?_;have ch:=ET c x oM;have hr:bC c x=if x∈c then c else pA x c:=rfl
 obtain⟨R,hR⟩:=ex (bC c x);have hs:∀ y r,pA x (y::r)=if x.1<y.1 then x::y::r else y::pA x r:=λ_ _=>rfl
 have hs0:pA x []=[x]:=rfl;rw[hR] at hr ⊢;obtain⟨I,hI⟩:=ex (pA x);rw[hI] at hr hs hs0;clear hI hR;obtain⟨x1,x2⟩:=x;have hap:∀ (o:List yQ) y,enc ltc (o++[y])=enc ltc o++zL [ltc y]:=λo y=>by simp[enc,zL]
 dsimp only at hs;cbv;refine cA ch ?_;cbv;refine zE (λh=>?_) (λh=>?_);{rw[if_pos h] at hr;subst hr;cbv;exact rA};rw[if_neg h] at hr;cbv;refine zW (σ:=Nat×List yQ×Bool) (λt=>⟨[(0,jD c),(3,.ptr 3 0),(5,oV 40 2 t.2.1.length),(6,bV t.2.2),(7,iV t.1)],[(3,.box [iV x1,bV x2]),(40,aV 2 (enc ltc t.2.1))]⟩)
  (λt=>t.1<=c.length/\R=(if t.2.2=true then t.2.1++c.drop t.1 else t.2.1++I (c.drop t.1))/\t.2.1.length<=2*t.1) (λt=>c.length-t.1) (0,[],false) ⟨yU _,hr,yU _⟩
  (.trans (.le (ps':=⟨[(0,jD c),(3,.ptr 3 0),(5,.nil),(6,bV false),(7,iV (((0:Nat):Int)))],[(3,.box [iV x1,bV x2])]⟩) (by cbv;repeat' first|exact trivial|exact lR|exact zB om|exact zZ rfl (by simp[zL,zA])|exact zK rfl|exact yH rfl|apply And.intro) okZ rfl)
   (.trans (.adoptT (ps:=⟨[(0,jD c),(3,.ptr 3 0),(5,.nil),(6,bV false),(7,iV (((0:Nat):Int)))],[(3,.box [iV x1,bV x2])]⟩) 40 2 5 rfl rfl) (wkZ))) ?_
 intro t ht;obtain⟨i,o,d⟩:=t;obtain⟨h1,h2,h3⟩:=ht;dsimp only at h1 h2 h3;clear hr;cbv;refine zE (λh5=>?_) (λh5=>?_)
 ·(have hlt:i<c.length:=by rw[zA] at h5;exact om);obtain⟨y,hy⟩:=zO hlt
  rw[zU hy,hs] at h2;have hy1:=hy;obtain⟨y1,y2⟩:=y;dsimp only at h2;cbv;refine zM 10 (by cbv) ?_;cbv;refine yA (λe=>?_) (λe=>?_);{rw[if_pos e] at h2;cbv;refine yB hy xX wQ ?_;cbv;refine wU Kz rfl rfl rfl (by simp[zA]) rfl ⟨by simp[zL,xE]⟩ (z5 oM (by simp[zL,zA] at *;exact om)) rfl ?_;cbv;refine⟨zC om om,(i+1,o++[(y1,y2)],d),⟨(show i+1<=c.length by omega),?_,by grind⟩,(show c.length-(i+1)<c.length-i by omega),.le (by cbv;repeat' first|exact trivial|exact lR|exact zB om|exact zZ rfl (by simp[zL,zA])|exact zK rfl|exact yH rfl|apply And.intro) (by cbv;repeat' first|exact trivial|exact lR|exact zH (by rw[hap o (y1,y2)];rfl)|apply And.intro) rfl⟩;grind};{have e:d=false:=e;rw[if_neg (by grind)] at h2;cbv;refine yB hy xX wQ ?_;cbv;refine zE (λe2=>?_) (λe2=>?_);{rw[if_pos e2] at h2;cbv;refine wU Kz rfl rfl rfl (by simp[zA]) rfl ⟨by simp[zL,xE]⟩ (z5 oM (by simp[zL,zA] at *;exact om)) rfl ?_;cbv;refine yB hy xX wQ ?_;cbv;refine wU Kz rfl rfl rfl (by grind) rfl ⟨by simp[zL,xE]⟩ (z5 oM (by simp[zL,zA] at *;exact om)) rfl ?_;cbv;refine⟨zC om om,(i+1,o++[(x1,x2)]++[(y1,y2)],true),⟨(show i+1<=c.length by omega),?_,by grind⟩,(show c.length-(i+1)<c.length-i by omega),.le (by cbv;repeat' first|exact trivial|exact lR|exact zB om|exact zZ rfl (by simp[zL,zA])|exact zK rfl|exact yH rfl|apply And.intro) (by cbv;repeat' first|exact trivial|exact lR|exact zH (by rw[hap,hap];rfl)|apply And.intro) rfl⟩;grind};{rw[if_neg e2] at h2;cbv;refine yB hy xX wQ ?_;cbv;refine wU Kz rfl rfl rfl (by simp[zA]) rfl ⟨by simp[zL,xE]⟩ (z5 oM (by simp[zL,zA] at *;exact om)) rfl ?_;cbv;refine⟨zC om om,(i+1,o++[(y1,y2)],d),⟨(show i+1<=c.length by omega),?_,by grind⟩,(show c.length-(i+1)<c.length-i by omega),.le (by cbv;repeat' first|exact trivial|exact lR|exact zB om|exact zZ rfl (by simp[zL,zA])|exact zK rfl|exact yH rfl|apply And.intro) (by cbv;repeat' first|exact trivial|exact lR|exact zH (by rw[hap o (y1,y2)];rfl)|apply And.intro) rfl⟩;grind}}
 ·(have hi:i=c.length:=by rw[zA] at h5;exact om);rw[hi,wD,hs0,kN] at h2
  clear h5;cbv;refine zP (λe=>?_) (λe=>?_)
  ·(have ed:d=true:=by omega);rw[ed,if_pos rfl] at h2
   cbv;refine cZ _ (.trans (.le (ps':=⟨[(4,oV 40 2 o.length)],[(40,aV 2 (enc ltc o))]⟩) (by cbv;repeat' first|exact trivial|exact lR|exact zB om|exact zZ rfl (by simp[zL,zA])|exact zK rfl|exact yH rfl|apply And.intro) (by cbv;repeat' first|exact trivial|exact lR|exact zH rfl|apply And.intro) rfl) (.frz 40 rfl rfl (by cbv;repeat' first|exact trivial|exact z8 (by simp[zA])|apply And.intro) (by cbv;repeat' first|exact trivial|apply And.intro))) rfl (by cbv;exact zS (by rw[h2];exact p5 ltc _))
  ·(have ed:d=false:=by omega);rw[ed,if_neg Vs] at h2
   cbv;refine wU Kz rfl rfl rfl (by simp[zA]) rfl ⟨by simp[zL,xE]⟩ (z5 oM (by simp[zL,zA] at *;exact om)) rfl ?_;cbv;refine cZ _ (.trans (.le (ps':=⟨[(4,oV 40 2 ((o++[(x1,x2)]).length))],[(40,aV 2 (enc ltc (o++[(x1,x2)])))]⟩) (by cbv;repeat' first|exact trivial|exact lR|exact zB om|exact zZ rfl (by simp[zL,zA])|exact zK rfl|exact yH rfl|apply And.intro) (by cbv;repeat' first|exact trivial|exact lR|exact zH (by rw[hap];rfl)|apply And.intro) rfl) (.frz 40 rfl rfl (by cbv;repeat' first|exact trivial|exact z8 (by simp[zA])|apply And.intro) (by cbv;repeat' first|exact trivial|apply And.intro))) rfl (by cbv;exact zS (by rw[h2];exact p5 ltc _))
theorem Jr (x:yQ):∀ l,(pA x l).length=l.length+1
 |[]=>rfl| y::r=>by unfold pA;split;{rfl};{simp[Jr x r]}
def DS (c:List yQ)(x:yQ):(bC c x).length<=c.length+1:=by grind [bC,Jr]
def Es (l:List yQ)(hl:l.length<2^29):zD 75 [jD l] (.tup [jD ((mkR l).getD []),bV ((mkR l).isSome)]):=by
 refine sF Tryz.f75 ?_;obtain⟨F,hF⟩:∃ F:List yQ->List yQ->List yQ,∀ c l,F c l=l.foldl bC c:=⟨_,λ_ _=>rfl⟩;have hr:mkR l=if clG none (F [] l)=true then some (F [] l) else none:=by rw[hF];rfl
 have hs:∀ c x r,F c (x::r)=F (bC c x) r:=λc x r=>by grind
 have hs0:∀ c,F c []=c:=λc=>by grind
 obtain⟨R,hR⟩:=ex (F [] l);rw[hR] at hr;have hR0:R=F [] (l.drop 0):=hR.symm;clear hF hR;cbv;refine zW (σ:=Nat×List yQ) (λt=>⟨[(0,jD l),(4,jD t.2),(5,iV t.1)],[]⟩) (λt=>t.1<=l.length/\R=F t.2 (l.drop t.1)/\t.2.length<=t.1) (λt=>l.length-t.1) (0,[]) ⟨yU _,hR0,yD _⟩ (wkZ) ?_;clear hR0;intro t ht;obtain⟨i,c⟩:=t;obtain⟨h1,h2,h3⟩:=ht;dsimp only at h1 h2 h3;cbv;refine zE (λh5=>?_) (λh5=>?_)
 ·(have hlt:i<l.length:=by rw[zA] at h5;exact om);obtain⟨y,hy⟩:=zO hlt
  rw[zU hy,hs] at h2;have ci:=Og c y oM;have hl2:=DS c y;generalize bC c y=c' at *;cbv;refine yB hy xX wQ ?_;cbv;refine cA ci ?_;cbv;exact⟨zC om om,(i+1,c'),⟨(show i+1<=l.length by omega),h2,(show c'.length<=i+1 by omega)⟩,(show l.length-(i+1)<l.length-i by omega),wkZ⟩
 ·(have hi:i=l.length:=by rw[zA] at h5;exact om);rw[hi,wD,hs0] at h2
  subst h2;have cv:=Ew R oM;cbv;refine cA cv ?_;cbv;refine zP (λe=>?_) (λe=>?_)
  ·(have e':clG none R=true:=by omega);rw[if_pos e'] at hr
   rw[hr];cbv;exact rA
  ·(have e':clG none R=false:=by omega);rw[if_neg (by grind)] at hr
   rw[hr];cbv;exact rA
def Ei (a:List Lem)(hl:a.length<2^38)(ha:∀ m,m∈a->m.v.sz (2^32)/\Msz (2^32) m.pf):zD 36 [llv a,llv a] (bV true):=by
 refine sF Tryz.f36 ?_;cbv;refine zE (λ_=>?_) (λe=>absurd rfl e);cbv;refine zW (σ:=Nat) (λi=>⟨[(0,llv a),(1,llv a),(5,iV i)],[]⟩) (λi=>i<=a.length) (λi=>a.length-i) 0 (yU _) (wkZ) ?_;intro i hi;cbv;refine zE (λh5=>?_) (λh5=>?_)
 ·have hlt:=uL h5;obtain⟨x,hx⟩:=zO hlt;obtain⟨hv,hp⟩:=ha x (zX hx);have c1:=s69 x.v x.v hv hv;rw[decide_eq_true rfl] at c1;have c2:=GX x.pf x.pf hp hp;rw[iZ] at c2;cbv;refine zM 49 (by cbv) ?_;cbv;refine yB hx y0 xD ?_;cbv;refine yB hx y0 xD ?_;cbv;refine vN rfl ?_;cbv;refine yB hx y0 xD ?_;cbv;refine yB hx y0 xD ?_;cbv
  (all_goals (refine vN rfl ?_));cbv
  refine yB hx y0 xD ?_;cbv;refine yB hx y0 xD ?_;cbv;refine dA c1 ?_;cbv;refine rR rfl ?_;cbv;refine yB hx y0 xD ?_;cbv;refine yB hx y0 xD ?_;cbv;refine cA c2 ?_;cbv;refine dY rfl ?_;cbv;exact⟨zC om om,i+1,om,om,wkZ⟩
 {cbv;exact rA}
def Ej (r:Rsn)(h1:r.cl.length<2^38)(h2:r.lems.length<2^38)(h3:∀ m,m∈r.lems->m.v.sz (2^32)/\Msz (2^32) m.pf)(h4:Msz (2^32) r.pf):zD 22 [rsv r,rsv r] (bV true):=by refine sF Tryz.f22 ?_;have c1:=E0 r.cl r.cl h1 h1;rw[decide_eq_true rfl] at c1;have c2:=Ei r.lems h2 h3;have c3:=GX r.pf r.pf h4 h4;rw[iZ] at c3;obtain⟨cl,L,em,pf⟩:=r;dsimp only [rsv] at *;clear h1 h2 h3 h4;cbv;refine vN rfl ?_;cbv;refine cA c1 ?_;cbv;refine rR rfl ?_;cbv;refine cA c2 ?_;cbv;refine rR rfl ?_;cbv;refine cA c3 ?_;cbv;exact rA
def Ol (s:Scp)(em:Bool)(l:List Mult)(hs:s.sz (2^20))(hg:s.q.goal.ts.length<=2^34)(hv:s.q.goal.valid 9223372036854775807=s.q.goal.valid 4611686018427387904)(hok:SumOk s l):zD 42 [sv s,bV em,mlv l] (bV (s.closes em l)):=by
 refine sF Tryz.f42 ?_;have c1:=Rf s l hs hok;have c2:=GZ s s.q.goal l hs (hs.q.goal.mono (by decide)) hg hok;have e1:em=true->s.closes em l=s.refutes l:=λh=>by unfold Scp.closes;grind
 have e2:em=false->s.closes em l=s.provesR s.q.goal l:=λh=>by unfold Scp.closes Scp.proves Scp.provesR;grind
 generalize s.closes em l=r at *;generalize s.refutes l=r1 at *;generalize s.provesR s.q.goal l=r2 at *;clear hs hg hv hok;obtain⟨⟨⟨n,us,os⟩,⟨lo,hi',rows⟩,⟨ts,c⟩⟩,path,L⟩:=s;dsimp only [sv] at *;cbv;refine zP (λe=>?_) (λe=>?_);{have:=e1 e;subst this;cbv;refine cA c1 ?_;cbv;exact rA};{have:=e2 e;subst this;cbv;refine cA c2 ?_;cbv;exact rA}
def rgo (M:List Bool):List Lem->Nat->List Lem->List Int->List Lem×List Int
 |[],_,acc,to=>(acc,to)| m::r,i,acc,to=>if M.getD i false=true then rgo M r (i+1) (acc++[⟨m.u,m.up,m.v,m.pf.map (rnM to)⟩]) (to.set i (acc.length+1)) else rgo M r (i+1) acc to
def Z4 (s:Scp) (em:Bool) (l:List Mult):Rsn×Int :=
 if s.scopeB=false then (pG,1)
 else if s.closes em l=false then (pG,12)
 else match lgo s (wN (s.marks l).1) [] with
  |none=>(pG,10)
  |some ls=>match mkR ls with
   |none=>(pG,10)| some c=>(⟨c,(rgo (s.marks l).2 s.lems 0 [] (List.replicate s.lems.length 0)).1,em,l.map (rnM (rgo (s.marks l).2 s.lems 0 [] (List.replicate s.lems.length 0)).2)⟩,0)
structure LnrOk (s:Scp) (l:List Mult):Prop where
 sz:s.sz (2^20)
 sc:∀ (i:Nat) (m:Lem),s.lems[i]?=some m->SumOk (s.pre i) m.pf
 hg:s.q.goal.ts.length<=2^34
 hv:s.q.goal.valid 9223372036854775807=s.q.goal.valid 4611686018427387904
 cl:SumOk s l
 ps:Psz s
 n:l.length<2^30
 pf:∀ m,m∈s.lems->m.pf.length<2^30
 pl:s.path.length<=1000
 ll:s.lems.length<=1000
 m1:(s.marks l).1.length=s.path.length
 m2:(s.marks l).2.length=s.lems.length
def Et (s:Scp)(em:Bool)(l:List Mult)(h:LnrOk s l):zD 21 [sv s,bV em,mlv l] (.tup [rsv (Z4 s em l).1,iV ((Z4 s em l).2)]):=by
 refine sF Tryz.f21 ?_;have c1:=T9 s h.sz h.sc;have c2:=Ol s em l h.sz h.hg h.hv h.cl;have cm:=EJ s l h.ps (fJ h.n (by decide)) (xF h.ll (by decide)) (λm hm=>fJ (h.pf m hm) (by decide));have hM1:=h.m1;have hM2:=h.m2;have ci:=ER (s.marks l).1 (by have:=h.pl;omega);have hD:∀ k,k∈wN (s.marks l).1->0<=k/\s.path[k.toNat]?=some (s.dec k):=λk hk=>by obtain⟨j,rfl,g2,g3⟩:=jL.1 hk;obtain⟨d,hd'⟩:=zO (l:=s.path) (i:=j) oM;have e:(j:Int).toNat=j:=rfl;unfold Scp.dec;grind
 have hDl:(wN (s.marks l).1).length<=1000:=by have:=Z6 (s.marks l).1 (s.marks l).1.length;have:=h.pl;grind [wN]
 have hR:Z4 s em l=if s.scopeB=false then ((pG,1):Rsn×Int)
  else if s.closes em l=false then (pG,12)
  else match lgo s (wN (s.marks l).1) [] with
   |none=>(pG,10)
   |some ls=>match mkR ls with
    |none=>(pG,10)| some c=>(⟨c,(rgo (s.marks l).2 s.lems 0 [] (List.replicate s.lems.length 0)).1,em,l.map (rnM (rgo (s.marks l).2 s.lems 0 [] (List.replicate s.lems.length 0)).2)⟩,0):=rfl
 have c4:=λk=>EP (s.dec k);have cM:=λls (h2:ls.length<2^29)=>Es ls h2;have cr:=λ(f:List Mult) (to:List Int) (h2:f.length<2^30) (h3:to.length<=1000)=>EE f to (fJ h2 (by decide)) oM;have hpl:=h.pl;have hll:=h.ll;have hpf:=h.pf;have hln:=h.n;have hgo:∀ k r acc,lgo s (k::r) acc=match jE (s.dec k) with
  |none=>none| some x=>lgo s r (acc++[(x.1,!x.2)]):=λ_ _ _=>rfl
 have hgn:∀ acc,lgo s [] acc=some acc:=λ_=>rfl;obtain⟨GO,hGO⟩:∃ GO:List Int->List yQ->Option (List yQ),∀ r acc,lgo s r acc=GO r acc:=⟨_,λ_ _=>rfl⟩;obtain⟨RR,hRR⟩:=ex (Z4 s em l);obtain⟨RG,hRG⟩:∃ G:List Lem->Nat->List Lem->List Int->List Lem×List Int,∀ r i a t,rgo (s.marks l).2 r i a t=G r i a t:=⟨_,λ_ _ _ _=>rfl⟩;have hrn:∀ i a t,RG [] i a t=(a,t):=λi a t=>by rw[<-hRG];rfl
 have hrc:∀ m r i a t,RG (m::r) i a t=if (s.marks l).2.getD i false=true then RG r (i+1) (a++[⟨m.u,m.up,m.v,m.pf.map (rnM t)⟩]) (t.set i (a.length+1)) else RG r (i+1) a t:=λm r i a t=>by rw[<-hRG,<-hRG,<-hRG];rfl
 rw[hRR] at hR ⊢;simp only[hGO,hRG] at hgo hgn hR;obtain⟨MK,hMK⟩:∃ MK:List yQ->Option (List yQ),∀ r,mkR r=MK r:=⟨_,λ_=>rfl⟩;simp only[hMK] at cM hR;clear hRR hGO hRG hMK h;generalize s.scopeB=b1 at *;generalize s.closes em l=b2 at *;generalize wN (s.marks l).1=D at *;generalize Scp.dec s=dec at *;generalize s.marks l=MM at *;obtain⟨MD,M⟩:=MM;obtain⟨r1,e9⟩:=RR;obtain⟨⟨⟨n,us,os⟩,⟨lo,hi',rows⟩,⟨ts,c⟩⟩,path,L⟩:=s;dsimp only [sv] at *;cbv;refine cA c1 ?_;cbv;refine zP (λe=>?_) (λe=>?_)
 rotate_left
 {rw[if_pos e] at hR;cases hR;cbv;exact rA};rw[if_neg (by rw[e];decide)] at hR;cbv;refine cA c2 ?_;cbv;refine zP (λe2=>?_) (λe2=>?_)
 rotate_left
 {rw[if_pos e2] at hR;cases hR;cbv;exact rA};rw[if_neg (by rw[e2];decide)] at hR;clear c1 c2;cbv;refine kA (λn=>n) cm ?_;cbv;have hf1:0+path.length<=(enc bc MD).length:=by grind [zA]
 have hf2:0+L.length<=(enc bc M).length:=by grind [zA]
 have t1:((enc bc MD).drop 0).take path.length=enc bc MD:=by grind [zA]
 have t2:((enc bc M).drop 0).take L.length=enc bc M:=by rw[xM,<-hM2,<-zA bc M,wW]
 refine qF (.trans (.frz 100 rfl rfl (by cbv;repeat' first|exact trivial|exact z8 hf1|apply And.intro) (by cbv;repeat' first|exact trivial|apply And.intro)) (.frz 101 rfl rfl (by cbv;repeat' first|exact trivial|exact z8 hf2|apply And.intro) (by cbv;repeat' first|exact trivial|apply And.intro))) rfl (by exact⟨zS t1,trivial⟩) ci rfl ?_;clear ci cm hf1 hf2 t1;cbv;refine zW (σ:=Nat×List yQ) (λt=>⟨[(1,bV em),(2,mlv l),(3,.ptr 3 0),(6,.ptr 6 0),(9,.sl (λ_=>enc bc M)),(10,oV 64 2 t.2.length),(11,zlv D),(12,iV t.1)],[(3,.box [iV n,alv us,alv os,rlv lo,rlv hi',alv rows,tsv ts,bV c.neg,nat c.num,nat c.den,dlv path,llv L]),(6,.box [.nil,.nil,.ff,.nil]),(64,aV 2 (enc ltc t.2))]⟩)
  (λt=>t.1<=D.length/\GO D []=GO (D.drop t.1) t.2/\t.2.length=t.1) (λt=>D.length-t.1) (0,[]) ⟨yU _,rfl,rfl⟩
  (.trans (.le (ps':=⟨[(1,bV em),(2,mlv l),(3,.ptr 3 0),(6,.ptr 6 0),(9,.sl (λ_=>enc bc M)),(10,.nil),(11,zlv D),(12,iV (((0:Nat):Int)))],[(3,.box [iV n,alv us,alv os,rlv lo,rlv hi',alv rows,tsv ts,bV c.neg,nat c.num,nat c.den,dlv path,llv L]),(6,.box [.nil,.nil,.ff,.nil])]⟩) (by cbv;repeat' first|exact trivial|exact lR|exact zS t2|apply And.intro) okZ rfl)
   (.trans (.adoptT (ps:=⟨[(1,bV em),(2,mlv l),(3,.ptr 3 0),(6,.ptr 6 0),(9,.sl (λ_=>enc bc M)),(10,.nil),(11,zlv D),(12,iV (((0:Nat):Int)))],[(3,.box [iV n,alv us,alv os,rlv lo,rlv hi',alv rows,tsv ts,bV c.neg,nat c.num,nat c.den,dlv path,llv L]),(6,.box [.nil,.nil,.ff,.nil])]⟩) 64 2 10 rfl rfl) (wkZ))) ?_
 intro t ht;obtain⟨i,acc⟩:=t;obtain⟨h1,h2,h3⟩:=ht;dsimp only at h1 h2 h3;cbv;refine zE (λh=>?_) (λh=>?_)
 ·have hlt:=uL h;obtain⟨k,hk⟩:=zO hlt;have hkm:=zX hk;obtain⟨k0,hp⟩:=hD k hkm;have c5:=c4 k;rw[zU hk,hgo] at h2;generalize dec k=d at *;clear c4 cM cr hD hrc hrn;cbv;refine vD 14 [(13,13)] (by cbv) (by cbv) (by cbv) ?_;cbv;refine yB hk kY dC ?_;cbv;refine y6 hp (by exact om) uW qN ?_;cbv;refine dA c5 ?_;cbv;cases hx:jE d with
  |none =>
   rw[hx] at h2;dsimp only at h2;rw[h2] at hR;dsimp only at hR;cases hR;cbv;refine Yc rfl ?_;cbv;exact rA
  |some x =>
   (rw[hx] at h2;dsimp only at h2;have c9:=EI x;have hen:enc ltc (acc++[(x.1,!x.2)])=enc ltc acc++zL [ltc (x.1,!x.2)]:=by simp[enc,zL]);have hal:(acc++[(x.1,!x.2)]).length=i+1:=by grind
   clear c5 hR;obtain⟨x1,x2⟩:=x;dsimp only at *;cbv;refine dY rfl ?_;cbv;refine cA c9 ?_;cbv;refine wU Hq rfl rfl rfl (by simp[zA]) rfl ⟨by simp[zL,xE]⟩ (z5 oM (by simp[zL,zA] at *;exact om)) rfl ?_;cbv;exact⟨zC om om,(i+1,acc++[(x1,!x2)]),⟨(show i+1<=D.length by omega),h2,hal⟩,(show D.length-(i+1)<D.length-i by omega),.le (by cbv;repeat' first|exact trivial|exact lR|exact zB om|exact zZ rfl (by simp[zL,zA])|apply And.intro) (by cbv;repeat' first|exact trivial|exact lR|exact zH (by rw[hen];rfl)|apply And.intro) rfl⟩
 have hiD:i=D.length:=kU h h1;rw[hiD,wD,hgn] at h2;rw[h2] at hR;dsimp only at hR;have cm:=cM acc oM;have hT:((enc ltc acc).drop 0).take acc.length=enc ltc acc:=by rw[xM,<-zA ltc acc,wW]
 have hfr:0+acc.length<=(enc ltc acc).length:=by grind [zA]
 clear cM c4 h2 hgo hgn hD t2;cbv;refine qF (.frz 64 rfl rfl (by cbv;repeat' first|exact trivial|exact z8 hfr|apply And.intro) (by cbv;repeat' first|exact trivial|apply And.intro)) rfl (by exact⟨zS hT,trivial⟩) cm rfl ?_;cbv;cases hx:MK acc with
 |none =>
  rw[hx] at hR;dsimp only at hR;cases hR;cbv;refine Yc rfl ?_;cbv;exact rA
 |some cl =>
  (rw[hx] at hR;dsimp only at hR;cases hR;clear cm;cbv;refine dY rfl ?_;cbv;refine⟨z5 (by grind) (by simp only[zA];exact om),kX (by grind) oM,?_⟩;have hz0:∀ n:Nat,n=L.length->enc ic (List.replicate L.length 0)=List.replicate n [.int .i64 0]:=λn h=>by rw[h];unfold enc;rw[List.map_replicate];rfl);refine zW (σ:=Nat×List Lem×List Int) (λt=>⟨[(2,mlv l),(3,.ptr 3 0),(6,.ptr 6 0),(9,.sl (λ_=>enc bc M)),(17,oV 76 1 L.length),(18,.ptr 18 0),(19,iV t.1)],[(3,.box [iV n,alv us,alv os,rlv lo,rlv hi',alv rows,tsv ts,bV c.neg,nat c.num,nat c.den,dlv path,llv L]),(6,.box [.nil,.nil,.ff,.nil]),(76,aV 1 (enc ic t.2.2)),(18,.box [jD cl,oV 105 6 t.2.1.length,bV em,.nil]),(105,aV 6 (enc lc t.2.1))]⟩)
   (λt=>t.1<=L.length/\RG L 0 [] (List.replicate L.length 0)=RG (L.drop t.1) t.1 t.2.1 t.2.2/\t.2.2.length=L.length/\t.2.1.length<=t.1) (λt=>L.length-t.1) (0,[],List.replicate L.length 0) ⟨yU _,rfl,Da,yD _⟩
   (.trans (.le (ps':=⟨[(2,mlv l),(3,.ptr 3 0),(6,.ptr 6 0),(9,.sl (λ_=>enc bc M)),(17,oV 76 1 L.length),(18,.ptr 18 0),(19,iV (((0:Nat):Int)))],[(3,.box [iV n,alv us,alv os,rlv lo,rlv hi',alv rows,tsv ts,bV c.neg,nat c.num,nat c.den,dlv path,llv L]),(6,.box [.nil,.nil,.ff,.nil]),(76,aV 1 (enc ic (List.replicate L.length 0))),(18,.box [jD cl,.nil,bV em,.nil])]⟩) (by cbv;repeat' first|exact trivial|exact lR|exact zZ rfl (by simp[zA])|apply And.intro) (by cbv;repeat' first|exact trivial|exact lR|exact zH (hz0 _ (by simp[zA])).symm|apply And.intro) rfl)
    (.trans (.adoptB (ps:=⟨[(2,mlv l),(3,.ptr 3 0),(6,.ptr 6 0),(9,.sl (λ_=>enc bc M)),(17,oV 76 1 L.length),(18,.ptr 18 0),(19,iV (((0:Nat):Int)))],[(3,.box [iV n,alv us,alv os,rlv lo,rlv hi',alv rows,tsv ts,bV c.neg,nat c.num,nat c.den,dlv path,llv L]),(6,.box [.nil,.nil,.ff,.nil]),(76,aV 1 (enc ic (List.replicate L.length 0))),(18,.box [jD cl,.nil,bV em,.nil])]⟩) (cs:=[jD cl,.nil,bV em,.nil]) 105 6 18 1 rfl rfl rfl) (wkZ))) ?_
  clear h hz0 hT hfr;intro t ht;obtain⟨j,bc',to⟩:=t;obtain⟨g1,g2,g3,g4⟩:=ht;dsimp only at g1 g2 g3 g4;cbv;refine zE (λh=>?_) (λh=>?_)
  ·have hlt:=uL h;obtain⟨m,hm⟩:=zO hlt;obtain⟨mb,hmb⟩:=zO (l:=M) (i:=j) oM;have c5:=cr m.pf to (hpf m (zX hm)) oM;rw[zU hm,hrc,show M.getD j false=mb by grind] at g2;rw[g3] at c5;cbv;refine yB hmb tZ eT ?_;cbv;refine zP (λe=>?_) (λe=>?_)
   ·(rw[if_pos e] at g2;have hen:enc lc (bc'++[⟨m.u,m.up,m.v,m.pf.map (rnM to)⟩])=enc lc bc'++zL [lc ⟨m.u,m.up,m.v,m.pf.map (rnM to)⟩]:=by simp[enc,zL]);clear cr
    (cbv;refine yB hm y0 xD ?_;cbv;refine kA (λ_=>76) c5 ?_;cbv;refine wU tE rfl rfl rfl (by rw[zA]) rfl ⟨by simp[zL,xE]⟩ (z5 oM (by rw[zA];simp[zL];exact om)) rfl ?_;cbv;refine⟨yZ om om,tT (p:=ic) to rfl j om oM kY dC (λt0 ht0=>?_)⟩;cbv;have hst:∀ (k:Nat) (v:Int),k=j->v=((bc'.length+1:Nat):Int)->(enc ic to).set k [.int .i64 v]=enc ic (to.set j ((bc'.length+1:Nat):Int)):=λk v e1 e2=>by rw[e1,e2,<-tS];rfl);exact⟨zC om om,(j+1,bc'++[⟨m.u,m.up,m.v,m.pf.map (rnM to)⟩],to.set j ((bc'.length+1:Nat):Int)),⟨(show j+1<=L.length by omega),g2,by grind,(by grind)⟩,(show L.length-(j+1)<L.length-j by omega),
     .le (by cbv;repeat' first|exact trivial|exact lR|exact zB om|apply And.intro) (by cbv;repeat' first|exact trivial|exact lR|exact zZ rfl (by simp[zL,zA])|exact zH (show (enc ic to).set (0+((j:Nat):Int).toNat) [.int .i64 (((enc lc bc').length+1:Nat):Int)]=_ from hst _ _ oM (by rw[zA]))|exact zH (by rw[hen];rfl)|apply And.intro) rfl⟩
   {rw[if_neg (by grind)] at g2;cbv;exact⟨zC om om,(j+1,bc',to),⟨(show j+1<=L.length by omega),g2,g3,(show bc'.length<=j+1 by omega)⟩,(show L.length-(j+1)<L.length-j by omega),wkZ⟩}
  ·(have hjL:j=L.length:=kU h g1;have c8:=cr l to hln oM;rw[hjL,wD,hrn] at g2;rw[g2];rw[g3] at c8;have hT2:((enc lc bc').drop 0).take bc'.length=enc lc bc':=by rw[xM,<-zA lc bc',wW]);have hfr2:0+bc'.length<=(enc lc bc').length:=by grind [zA]
   clear cr g2;cbv;refine kW (λ_=>76) (.frz 105 rfl rfl (by cbv;repeat' first|exact trivial|exact z8 hfr2|apply And.intro) (by cbv;repeat' first|exact trivial|exact z8 hfr2|apply And.intro)) c8 ?_;cbv
   (refine rC ?_;cbv)
   exact⟨⟨lR,zS hT2,lR,lR,trivial⟩,lR,trivial⟩
theorem FC (x y:yQ)(h:x.1<y.1):∀ l,pA x (l++[y])=pA x l++[y]
 |[]=>by show (if x.1<y.1 then x::[y] else y::pA x [])=[x]++[y];grind| z::t=>by rw[Yh];unfold pA;split;{rfl};{rw[FC x y h t];rfl}
def Js (x:yQ):∀ l:List yQ,(∀ z,z∈l->¬x.1<z.1)->pA x l=l++[x]
 |[],_=>rfl| z::t,h=>by unfold pA;rw[if_neg (h z xV),Js x t (λw hw=>h w (xQ _ hw))];rfl
def dsc (l:List yQ):Prop:=l.Pairwise λa b=>b.1<a.1
def AU {a b:Int}:cI a b<0↔a<b:=by grind [cI]
def WC {x y:yQ}:∀ {l:List yQ},y∈fM x l->y=x\/y∈l
 |[],h=>by grind [fM]| z::t,h=>by unfold fM at h;split at h;{rcases yI.1 h with g|g;{grind};{have:=WC g;grind}};{grind}
def Jt {x:yQ}:∀ {c:List yQ},dsc c->(∀ y,y∈c->x.1≠y.1)->pA x c.reverse=(fM x c).reverse/\dsc (fM x c)
 |[],_,_=>⟨rfl,by grind [fM,dsc]⟩| z::t,h,hne=>by
  obtain⟨h1,h2⟩:=cG.1 h;obtain⟨i1,i2⟩:=Jt (x:=x) h2 (λy hy=>hne y (xQ _ hy));unfold fM;split
  ·rename_i hlt;have hlt':=AU.1 hlt;refine⟨by grind [FC],cG.2 ⟨λy hy=>?_,i2⟩⟩;rcases WC hy with rfl|g
   all_goals grind
  {rename_i hlt;have hge:¬x.1<z.1:=λg=>hlt (AU.2 g);have hzx:=hne z xV;refine⟨?_,cG.2 ⟨λy hy=>?_,h⟩⟩;{rw[List.reverse_cons (a:=x)];refine Js x _ λw hw=>?_;grind};grind}
def Fn:∀ (l c:List yQ),dsc c->(∀ x,x∈l->∀ y,y∈c->x.1≠y.1)->l.Pairwise (λa b=>a.1≠b.1) ->l.foldl bC c.reverse=(l.foldl (λa x=>fM x a) c).reverse/\dsc (l.foldl (λa x=>fM x a) c)
 |[],c,h,_,_=>⟨rfl,h⟩| x::r,c,h,hne,hp=>by
  obtain⟨p1,p2⟩:=cG.1 hp;have hx:=hne x xV;obtain⟨i1,i2⟩:=Jt h hx;have hno:x∉c.reverse:=λg=>hx x (List.mem_reverse.1 g) rfl;rw[Kk,Kk,show bC c.reverse x=(fM x c).reverse by unfold bC;grind];refine Fn r (fM x c) i2 (λz hz y hy=>?_) p2;rcases WC hy with rfl|g
  all_goals grind
def Fm {l:List yQ}(h:l.Pairwise (λa b=>a.1≠b.1)):mkR l=mkP l/\o7 (dB l).reverse:=by
 obtain⟨h1,h2⟩:=Fn l [] List.Pairwise.nil (λx _ y hy=>absurd hy (by simp)) h;have e:l.foldl bC []=(dB l).reverse:=h1;refine⟨by grind [mkR,mkP],?_⟩;have h3:(dB l).reverse.Pairwise (λa b=>a.1<b.1):=List.pairwise_reverse.2 h2;generalize (dB l).reverse=k at h3;clear h1 h2 e h;induction k with
 |nil=>trivial| cons a r ih =>
  obtain⟨q1,q2⟩:=cG.1 h3;cases r with
  |nil=>trivial| cons b t=>exact⟨λe=>by grind,ih q2⟩
def Jx (M:List Bool) (i:Nat):List Int:=((List.range i).filter λk=>M.getD k false).map λk:Nat=>(k:Int)
def Kr (M:List Bool)(i:Nat):Jx M (i+1)=Jx M i++(if M.getD i false=true then [(i:Int)] else []):=by unfold Jx;rw[Sf,List.filter_append,gH,List.filter_cons,List.filter_nil];grind
def Tf {M:List Bool}{i:Nat}{x:Int}(h:x∈Jx M i):0<=x/\x<i/\M.getD x.toNat false=true:=by unfold Jx at h;grind
def Hm {M:List Bool}{j:Nat}(hj:M.getD j false=true):∀ {n:Nat},j<n->∃ B,Jx M n=Jx M j++(j:Int)::B
 |n+1,h=>by rw[Kr];by_cases e:n=j;{simp_all};{obtain⟨B,hB⟩:=Hm hj (n:=n) oM;rw[hB];exact⟨B++_,by rw[Ha,Yh]⟩}
def Fz {x:Int}:∀ {A B:List Int},(∀ y,y∈A->y≠x)->ixI (A++x::B) x=A.length
 |[],B,_=>by show (if decide (x=x)=true then (0:Int) else _)=_;grind| a::A,B,h=>by have ih:=Fz (B:=B) (λy hy=>h y (xQ _ hy));have ha:=h a xV;show (if decide (x=a)=true then (0:Int) else if ixI (A++x::B) x<0 then -1 else ixI (A++x::B) x+1)=_;grind
def B4 {x:Int}:∀ {l:List Int},x∉l->ixI l x=-1
 |[],_=>rfl| a::r,h=>by have ih:=B4 (x:=x) (l:=r) (λg=>h (xQ _ g));show (if decide (x=a)=true then (0:Int) else if ixI r x<0 then -1 else ixI r x+1)=_;grind
structure To (M:List Bool) (n i:Nat) (to:List Int):Prop where
 len:to.length=n
 at_:∀ j:Nat,j<n->to[j]?=some (if j<i/\M.getD j false=true then ((Jx M j).length:Int)+1 else 0)
theorem To.rn {M:List Bool}{i:Nat}{to:List Int}(h:To M M.length i to)(hi:i<=M.length){x:Int}(hx:x<=i):rnI to x=ZQ (wN M) x:=by
 unfold rnI ZQ;rw[h.len];by_cases hx0:0<x
 ·(rw[if_pos ⟨hx0,by omega⟩,if_pos hx0,h.at_ (x-1).toNat oM];show (if (x-1).toNat<i/\M.getD (x-1).toNat false=true then ((Jx M (x-1).toNat).length:Int)+1 else 0)=_;have ex:x-1=((x-1).toNat:Int):=by omega);by_cases hm:M.getD (x-1).toNat false=true
  ·(rw[if_pos ⟨by omega,hm⟩];obtain⟨B,hB⟩:=Hm hm (n:=M.length) oM;have eI:wN M=Jx M (x-1).toNat++(x-1)::B:=by rw[ex];exact hB);rw[eI,Fz (λy hy=>by have:=Tf hy;omega)]
  {have e0:ixI (wN M) (x-1)=-1:=B4 (λg=>hm (Tf (i:=M.length) g).2.2);grind}
 omega
theorem To.pf {M:List Bool}{i:Nat}{to:List Int}(h:To M M.length i to)(hi:i<=M.length){l:List Mult}(hl:∀ m,m∈l->m.row.lo<=i/\m.row.hi<=i):l.map (rnM to)=l.map (rnP (wN M)):=by refine List.map_congr_left λm hm=>?_;obtain⟨h1,h2⟩:=hl m hm;unfold rnM rnP;rw[h.rn hi h1,h.rn hi h2]
def Qp {s:Scp}{M:List Bool}(hM:M.length=s.lems.length)(hb:s.backs):∀ (r:List Lem) (i:Nat) (acc:List Lem) (to:List Int),s.lems.drop i=r->i<=s.lems.length->To M M.length i to->acc=((Jx M i).map s.lemA).map (rnL (wN M)) ->(rgo M r i acc to).1=((wN M).map s.lemA).map (rnL (wN M))/\To M M.length M.length (rgo M r i acc to).2
 |[],i,acc,to,hd,hi,ht,ha=>by
  (have:i=M.length:=by have:=congrArg List.length hd;grind);subst this;exact⟨ha,ht⟩
 |m::r,i,acc,to,hd,hi,ht,ha=>by
  (have hlt:i<s.lems.length:=by grind);have hm:s.lems[i]?=some m:=by have:=congrArg (λl=>l[0]?) hd;grind
  have hd':s.lems.drop (i+1)=r:=by have:=congrArg List.tail hd;simpa using this
  (unfold rgo;have hal:acc.length=(Jx M i).length:=by grind);split
  ·(rename_i e;have hA:s.lemA (i:Int)=m:=by unfold Scp.lemA;grind);refine Qp hM hb r (i+1) _ _ hd' oM ⟨by rw[List.length_set,ht.len],λj hj=>?_⟩ ?_
   {rw[List.getElem?_set];by_cases ej:i=j;{subst ej;rw[if_pos rfl,if_pos (by rw[ht.len];omega),if_pos ⟨by omega,e⟩,hal]};{rw[if_neg ej,ht.at_ j hj];grind}};{rw[Kr,if_pos e,gH,gH,ha];congr 1;show _=[rnL (wN M) (s.lemA (i:Int))];rw[hA];unfold rnL;rw[ht.pf oM (hb i m hm)]}
  {rename_i e;refine Qp hM hb r (i+1) _ _ hd' oM ⟨ht.len,λj hj=>?_⟩ ?_;{rw[ht.at_ j hj];grind};{rw[Kr,if_neg e,kN,ha]}}
def Gb {s:Scp}{em:Bool}{l:List Mult}(hM:(s.marks l).2.length=s.lems.length)(hb:s.backs)(hl:∀ m,m∈l->m.row.lo<=s.lems.length/\m.row.hi<=s.lems.length)(hu:∀ ls,lgo s (wN (s.marks l).1) []=some ls->mkR ls=mkP ls):Z4 s em l=qL s em l:=by obtain⟨r1,r2⟩:=Qp hM hb s.lems 0 [] (List.replicate s.lems.length 0) rfl (yU _) ⟨by simp[hM],λj hj=>by grind⟩ rfl;have r3:=r2.pf (yD _) (l:=l) (λm hm=>by grind);unfold Z4 qL;grind
def uk (d:Dec):Prop:=d.k=1\/d.k=2
structure UD (q:Qry) (p:List Dec):Prop where
 f:∀ d,d∈p->uk d->d.fits q=true
 d:p.Pairwise λa b=>uk a->uk b->a.i≠b.i
theorem UD.nil (q:Qry):UD q []:=⟨λd hd=>absurd hd (by simp),List.Pairwise.nil⟩
theorem UD.snoc {q:Qry}{p:List Dec}{d:Dec}(h:UD q p)(hd:uk d->d.fits q=true/\∀ e,e∈p->uk e->e.i≠d.i):UD q (p++[d]):=by refine⟨λe he hk=>?_,List.pairwise_append.2 ⟨h.d,by simp,λa ha b hb ka kb=>?_⟩⟩;{rcases uQ.1 he with g|g;{exact h.f e g hk};grind};grind
theorem UD.free {s:Scp}(h:UD s.q s.path){u:Int}(h1:s.dcd 1 u=false)(h2:s.dcd 2 u=false):∀ e,e∈s.path->uk e->e.i≠u:=λe he hk hu=>by
 have hf:=h.f e he hk;unfold Scp.dcd at h1 h2;rw[List.any_eq_false] at h1 h2;rcases hk with k|k
 all_goals grind
def lQ {q:Qry}{k i:Int}(hk:k=1\/k=2)(h:0<=i/\i<q.g.us.length):(⟨k,i,R0⟩:Dec).fits q=true:=by unfold Dec.fits;grind
def Zs {raw:List UInt8}{q:Qry}{n m:Nat}(hm:q.g.us.length=m):∀ {k a:Nat} {p:List Dec},UD q p->UD q (mL raw q n m k p a)
 |0,a,p,h=>h| k+1,a,p,h=>by have h4:=kI (raw:=raw) (n:=4) (a:=a) (by decide);unfold mL;dsimp only;split;{rename_i hk;refine Zs hm (h.snoc λg=>?_);grind [uk]};{split;{exact Zs hm h};{split;{exact Zs hm h};{rename_i h1 h2 h3;have hi:=kI (raw:=raw) (n:=m) (a:=na raw a) oM;refine Zs hm (h.snoc λg=>⟨lQ g ⟨by (try dsimp only);omega,by (try dsimp only);omega⟩,?_⟩);exact UD.free (s:=⟨q,p,[]⟩) h (by grind) (by grind)}}}
theorem pM (n:Nat):∀ (us:List A) (j:Nat) (s:Scp),(runG n us j s).path=s.path/\(runG n us j s).q=s.q
 |[],_,_=>⟨rfl,rfl⟩| p::r,j,s=>pM n r (j+1) _
def Qz {n:Nat}:∀ {k j:Nat} {s:Scp},j+k<=s.q.g.us.length->UD s.q s.path->UD (opnG n k j s).q (opnG n k j s).path
 |0,j,s,_,h=>h| k+1,j,s,hj,h=>by unfold opnG;split;{rename_i hc;refine Qz (k:=k) (s:=⟨s.q,s.path++[⟨1+((n+7*j)%4:Nat),j,R0⟩],s.lems⟩) (by show j+1+k<=s.q.g.us.length;omega) ?_;refine UD.snoc h λg=>⟨lQ g ⟨by (try dsimp only);omega,by (try dsimp only);omega⟩,?_⟩;have ho:=hc.1;unfold Scp.opn at ho;simp only[yK,Vq,Dd] at ho;exact h.free ho.1.1 ho.2.1};{exact Qz oM h}
def AR (raw:List UInt8):UD (clo raw).q (clo raw).path:=by
 have h0:UD (fdS raw).q (fdS raw).path:=Zs (by show ((fdY raw 0).1.g.us.map fA).length=_;simp) (UD.nil _);have h1:UD (ext raw).q (ext raw).path:=by unfold ext;split;{exact h0};omega
 have h2:UD (dvd raw).q (dvd raw).path:=by unfold dvd;split;{obtain⟨e1,e2⟩:=pM (y5 raw%5) (ext raw).q.g.us 0 (ext raw);grind [Scp.run]};omega
 have h3:UD ((dvd raw).run (y5 raw%3)).q ((dvd raw).run (y5 raw%3)).path:=by grind [pM,Scp.run]
 have h4:=Qz (n:=y5 raw) (k:=((dvd raw).run (y5 raw%3)).q.g.us.length) (j:=0) (s:=(dvd raw).run (y5 raw%3)) oM h3;have h5:UD (jF raw).q (jF raw).path:=by unfold jF;dsimp only;split;{unfold Scp.run;rw[(pM 1 _ 0 _).1,(pM 1 _ 0 _).2];exact h4};{exact h4}
 exact⟨λd hd hk=>(h5.f d hd hk:_),h5.d⟩
def AQ (raw:List UInt8):(clo raw).path.Pairwise λa b=>uk a->uk b->a.i≠b.i:=(AR raw).d
def Wr {s:Scp}:∀ {D:List Int} {acc ls:List yQ},lgo s D acc=some ls->(∀ k,k∈D->uk (s.dec k))/\ls.map Prod.fst=acc.map Prod.fst++D.map λk=>(s.dec k).i
 |[],acc,ls,h=>by cases h;grind
 |k::r,acc,ls,h=>by unfold lgo at h;unfold jE at h;by_cases hk:(s.dec k).k=1\/(s.dec k).k=2;{rw[if_pos hk] at h;obtain⟨i1,i2⟩:=Wr h;refine⟨λj hj=>?_,by grind⟩;rcases yI.1 hj with rfl|g;{exact hk};grind};grind
def DI {s:Scp}(hp:s.path.Pairwise λa b=>uk a->uk b->a.i≠b.i){l:List Mult}(hl:(s.marks l).1.length=s.path.length){ls:List yQ}(h:lgo s (wN (s.marks l).1) []=some ls):ls.Pairwise λa b=>a.1≠b.1:=by
 obtain⟨h1,h2⟩:=Wr h;have h3:(ls.map Prod.fst).Pairwise (·≠·):=by
  (rw[h2,Vn,Hc,List.pairwise_map];refine (Zn (s.marks l).1).imp_of_mem λ{a b} ha hb hab=>?_;obtain⟨j,rfl,g1,_⟩:=jL.1 ha;obtain⟨k,rfl,g2,_⟩:=jL.1 hb;have ka:=h1 _ ha;have kb:=h1 _ hb;have ea:s.dec (j:Int)=s.path[j]'oM:=by unfold Scp.dec;grind);have eb:s.dec (k:Int)=s.path[k]'oM:=by unfold Scp.dec;grind
  grind [List.pairwise_iff_getElem]
 grind
theorem GE {a b:Int}(hab:a<=b):∀ {p:Int} {l:List (Int×R)},vT a p l=true->vT b p l=true
 |_,[],_=>rfl| p,t::r,h=>by unfold vT at h ⊢;simp only[yK,decide_eq_true_eq] at h ⊢;obtain⟨⟨⟨⟨⟨h1,h2⟩,h3⟩,h4⟩,h5⟩,h6⟩:=h;exact⟨⟨⟨⟨⟨h1,by omega⟩,h3⟩,h4⟩,h5⟩,GE hab h6⟩
theorem A.valid_mono {f:A}{a b:Int}(h:f.valid a=true)(hab:a<=b):f.valid b=true:=by unfold A.valid at h ⊢;simp only[yK] at h ⊢;grind [GE]
theorem Cw.sz16 {s:Scp}{p c:Nat}(h:Cw s p c)(hp:p<=1000)(hc:c<=1000):s.sz (2^16):=by have hpl:=h.pl;have hlen:=h.len;refine⟨h.qz.mono (by decide),⟨by omega,λd hd=>(h.dp d hd).mono (by decide)⟩,⟨by omega,λm hm=>?_,λm hm=>(h.l m hm).2.1⟩⟩;obtain⟨q,hq⟩:=(h.l m hm).1;have hf:=h.lb m hm;rw[hq,zV] at hf;rw[hq];exact zT (hf.mono (by decide))
def GJ {s:Scp}(h:s.sz (2^16)){l:List Mult}(hl:Msz (2^16) l)(hn:l.length<=20):SumOk s l where
 fm:=λm hm f hf=>(Ai h (by decide) hf).mono (by decide) (yD _)
 c:=hl.mono (by decide)
 pre:=λi acc hacc=>by
  (have hi:(l.take i).length<=20:=by grind);exact (Qa h (by decide) (λm hm=>(hl.sz m (s7 hm)).mono (by decide)) zero_fl hacc).mono oM oM
theorem Scp.sz.pre {s:Scp}{k:Nat}(h:s.sz k)(i:Nat):(s.pre i).sz k :=
 ⟨h.q,h.path,⟨by have:=h.lems.len;show (s.lems.take i).length<2^38;grind,λm hm=>h.lems.sz m (s7 hm),λm hm=>h.lems.pf m (s7 hm)⟩⟩
structure Lft (s:Scp) (l:List Mult):Prop where
 w:Cw s 8 32
 n:l.length<=20
 z:Msz (2^16) l
 r:∀ m,m∈l->RoIn s m.row
theorem Lft.marks {s:Scp}{l:List Mult}(h:Lft s l):(s.marks l).1.length=s.path.length/\(s.marks l).2.length=s.lems.length:=by obtain⟨m1,m2,_,_⟩:=tL h.w.backs l;omega
structure Lfit (s:Scp) (l:List Mult):Prop extends Lft s l where
 u:∀ ls,lgo s (wN (s.marks l).1) []=some ls->mkR ls=mkP ls/\o7 (dB ls).reverse
theorem Lft.fit {s:Scp}{l:List Mult}(h:Lft s l)(hp:s.path.Pairwise λa b=>uk a->uk b->a.i≠b.i):Lfit s l:=⟨h,λls hls=>Fm (DI hp h.marks.1 hls)⟩
def Gf {l:List Bool}{k:Int}(h:k∈wN l):0<=k/\k<l.length:=by obtain⟨j,rfl,g,_⟩:=jL.1 h;omega
theorem Lfit.lrn {s:Scp}{l:List Mult}(h:Lfit s l):LrnOk s l:=by
 obtain⟨u1,u2,u3,u4,u5⟩:=h.w.usz (by decide) (by decide);obtain⟨m1,m2⟩:=h.marks;have hl:=h.w.len;have hp:=h.w.pl;have b1:=Z6 (s.marks l).1 (s.marks l).1.length;have b2:=Z6 (s.marks l).2 (s.marks l).2.length;refine⟨u4,λm hm=>⟨by have:=(h.w.l m hm).2.2;omega,(h.w.lpf (by decide)).2 m hm⟩,h.z.mono (by decide),by have:=h.n;omega,λm hm=>(h.r m hm).rsm oM,h.w.used (by decide) (by decide) h.r (by have:=h.n;omega),λk hk=>?_,λk hk=>?_,?_,?_,λls hls=>(h.u ls hls).2⟩;{have:=Gf hk;omega};{have:=Gf hk;omega}
 all_goals grind [wN]
theorem Lft.lnr {s:Scp}{l:List Mult}(h:Lft s l):LnrOk s l:=by obtain⟨u1,u2,u3,u4,u5⟩:=h.w.usz (by decide) (by decide);obtain⟨m1,m2⟩:=h.marks;have hl:=h.w.len;have hp:=h.w.pl;have z:=h.w.sz16 (by decide) (by decide);have hv:=h.w.v;unfold Qry.valid at hv;simp only[yK] at hv;have hn:=Qry.vok_of h.w.v;refine⟨u4,λi m hm=>GJ (z.pre i) (h.w.l m (zX hm)).2.1 (h.w.l m (zX hm)).2.2,?_,?_,GJ z h.z h.n,u5,by have:=h.n;omega,λm hm=>by have:=(h.w.l m hm).2.2;omega,by omega,by omega,m1,m2⟩;{have h1:=hn.n1;have h2:=hn.n2;have h3:=hn.ul;have:=nY hv.2 (by grind [Grp.vars]);grind [Grp.vars]};{have h1:=hn.n1;have h2:=hn.n2;have h3:=hn.ul;grind [A.valid_mono,Grp.vars]}
def Fk {l:List Mult}{k:Nat}(h:Msz k l)(I:List Int):Msz k (l.map (rnP I)):=⟨by rw[y8];exact h.len,λm hm=>by obtain⟨y,hy,rfl⟩:=xA.1 hm;exact h.sz y hy⟩
end Go.Proofs.YtaeaffgjdcigoaaGreat
