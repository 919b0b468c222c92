/- A part of the proof: KsG, KpL, KtA, KtB, KtC. -/
import Derived.Test.YtaeaffgjdcigoaaGreatD38
import Derived.Test.YtaeaffgjdcigoaaGreatD37
import Derived.Test.YtaeaffgjdcigoaaGreatD35
import Derived.Test.YtaeaffgjdcigoaaGreatD31
import Derived.Test.YtaeaffgjdcigoaaGreatD36
set_option linter.all false
namespace Go.Proofs.YtaeaffgjdcigoaaGreat
open Go
set_option maxRecDepth 100000
set_option maxHeartbeats 8000000
def dY (l:y5):Dec:=⟨if (!l.2)=true then 1 else 2,l.1,R0⟩
def lV (q:Qry) (r:Rsn):Scp:=⟨q,r.cl.map dY,r.lems⟩
def Tl (q:Qry)(r:Rsn)(hc:r.cl.length<2^30):zD 32 [qv q,rsv r] (sv (lV q r)):=by
 refine sF Tryz.f32 ?_;have c1:=λl:y5=>TB l;have c2:=λl:y5=>NG l;have hS:lV q r=⟨q,r.cl.map dY,r.lems⟩:=rfl;obtain⟨S9,hS9⟩:=ex (lV q r);rw[hS9] at hS ⊢;clear hS9;obtain⟨cl,lems,em,pf⟩:=r;obtain⟨⟨n,us,os⟩,⟨lo,hi',rows⟩,⟨ts,c⟩⟩:=q;dsimp only at *;subst hS;dsimp only [sv] at *;cbv;refine zW (σ:=Nat) (λi=>⟨[(4,.ptr 4 0),(5,.ptr 5 0),(13,qR cl),(14,iV cl.length),(15,iV i)],[(4,.box [iV 0,.nil,.nil,.nil,.nil,.nil,.nil,.ff,.nil,.nil,.nil,.nil]),(5,.box [iV n,alv us,alv os,rlv lo,rlv hi',alv rows,tsv ts,bV c.neg,nat c.num,nat c.den,oV 25 5 i,llv lems]),(25,aV 5 (enc dc ((cl.take i).map dY)))]⟩)
  (λi=>i<=cl.length) (λi=>cl.length-i) 0 (yY _)
  (.trans (.le (ps':=⟨[(4,.ptr 4 0),(5,.ptr 5 0),(13,qR cl),(14,iV cl.length),(15,iV (((0:Nat):Int)))],[(4,.box [iV 0,.nil,.nil,.nil,.nil,.nil,.nil,.ff,.nil,.nil,.nil,.nil]),(5,.box [iV n,alv us,alv os,rlv lo,rlv hi',alv rows,tsv ts,bV c.neg,nat c.num,nat c.den,.nil,llv lems])]⟩) (by cbv;repeat' first|exact trivial|exact lR|exact zB (by (try dsimp only [zV] at *);rw[zA])|apply And.intro) okZ rfl)
   (.trans (.adoptB (ps:=⟨[(4,.ptr 4 0),(5,.ptr 5 0),(13,qR cl),(14,iV cl.length),(15,iV (((0:Nat):Int)))],[(4,.box [iV 0,.nil,.nil,.nil,.nil,.nil,.nil,.ff,.nil,.nil,.nil,.nil]),(5,.box [iV n,alv us,alv os,rlv lo,rlv hi',alv rows,tsv ts,bV c.neg,nat c.num,nat c.den,.nil,llv lems])]⟩) (cs:=[iV n,alv us,alv os,rlv lo,rlv hi',alv rows,tsv ts,bV c.neg,nat c.num,nat c.den,.nil,llv lems]) 25 5 5 10 rfl rfl rfl) (wkZ))) ?_
 intro i hi;cbv;refine zE (λh=>?_) (λh=>?_)
 ·(have hlt:i<cl.length:=by exact om);obtain⟨x,hx⟩:=zQ hlt
  (have hen:enc dc ((cl.take (i+1)).map dY)=enc dc ((cl.take i).map dY)++zS [dc (dY x)]:=by rw[tN,hx];simp[enc,zS]);have hln:(enc dc ((cl.take i).map dY)).length=i:=by rw[zA,wH,dM];omega
  have d1:=c1 x;have d2:zD 91 [ltv (x.1,!x.2)] (dv (dY x)):=c2 (x.1,!x.2);generalize dY x=d at *;clear c1 c2;cbv;refine yE hx x5 wT ?_;cbv;refine zL 6 (by cbv) ?_;cbv;refine dA d1 ?_;cbv;refine dA d2 ?_;cbv;refine vM lO rfl rfl rfl (by rw[hln]) rfl ⟨by simp[zS,xD]⟩ (z6 oM (by rw[hln];simp[zS];exact om)) rfl ?_;cbv;exact⟨zC om om,i+1,(show i+1<=cl.length by omega),(show cl.length-(i+1)<cl.length-i by omega),.le okZ (by cbv;repeat' first|exact trivial|exact lR|exact z4 rfl (by rw[hln];simp[zS])|exact zG (by rw[hen];rfl)|apply And.intro) rfl⟩
 ·(have hi2:i=cl.length:=by exact om);have hT:((enc dc ((cl.take i).map dY)).drop 0).take i=enc dc (cl.map dY):=by rw[hi2,vP,wN,yW (by rw[zA,wH];omega)]
  (have hfr:0+i<=(enc dc ((cl.take i).map dY)).length:=by rw[zA,wH,dM];omega);cbv
  refine aI _ (.frz 25 rfl rfl (by cbv;repeat' first|exact trivial|exact z5 hfr|apply And.intro) (by cbv;repeat' first|exact trivial|exact z5 hfr|apply And.intro)) rfl ?_;cbv;exact⟨lR,lR,lR,lR,lR,lR,lR,lR,lR,lR,zR hT,lR,trivial⟩
def iB (q:Qry) (c:List y5):Bool:=match c[c.length-1]? with
 |some x=>decide (x.1<q.g.us.length)| none=>true
def VV (q:Qry) (r:Rsn):Bool:=q.valid&&(clG none r.cl&&(iB q r.cl&&((lV q r).scopeB&&(lV q r).closes r.em r.pf)))
structure RsnOk (q:Qry) (r:Rsn):Prop where
 sz:q.sz (2^20)
 cl:r.cl.length<=1000
 lz:Lsz (2^20) r.lems
 pf:∀ m,m∈r.lems->m.pf.length<=100
 pz:Msz (2^23) r.pf
 pn:r.pf.length<=100
theorem RsnOk.scp {q:Qry}{r:Rsn}(h:RsnOk q r):(lV q r).sz (2^20):=⟨h.sz,⟨by show (r.cl.map dY).length<_;rw[wH];have:=h.cl;omega,λd hd=>by obtain⟨x,_,rfl⟩:=xB.1 hd;exact⟨yY _,yY _⟩⟩,h.lz⟩
def MO (q:Qry)(r:Rsn)(h:RsnOk q r):zD 24 [qv q,rsv r] (bV (VV q r)):=by
 refine sF Tryz.f24 ?_;have hcl:=h.cl;have hul:=h.sz.g.us.len;have c1:=tW q (h.sz.mono (by decide));have c2:=Tx r.cl oM;have c3:=Tl q r oM;have c4:=QB (lV q r) h.scp h.pf;have c5:=Ts (lV q r) r.em r.pf h.scp h.pz h.pn;have hV:VV q r=(q.valid&&(clG none r.cl&&(iB q r.cl&&((lV q r).scopeB&&(lV q r).closes r.em r.pf)))):=rfl;have hla:∀ x,r.cl[r.cl.length-1]?=some x->iB q r.cl=decide (x.1<q.g.us.length):=λx hx=>by grind [iB]
 have hln:r.cl=[]->iB q r.cl=true:=λhx=>by grind [iB]
 generalize VV q r=v at *;generalize lV q r=S at *;generalize S.scopeB=b4 at *;generalize S.closes r.em r.pf=b5 at *;generalize clG none r.cl=b2 at *;generalize q.valid=b1 at *;generalize iB q r.cl=b3 at *;clear h;obtain⟨cl,lems,em,pf⟩:=r;obtain⟨⟨n,us,os⟩,⟨lo,hi',rows⟩,⟨ts,c⟩⟩:=q;dsimp only [sv] at *;cbv;refine cA c1 ?_;cbv;refine yA (λe1=>?_) (λe1=>?_)
 rotate_left
 ·cbv
  (refine rC ?_;cbv)
  exact zK (by grind)
 cbv;refine cA c2 ?_;cbv;refine zN (λe2=>?_) (λe2=>?_)
 rotate_left
 ·cbv
  (refine rC ?_;cbv)
  exact zK (by grind)
 cbv;refine zL 14 (by cbv) ?_;cbv;refine zO (λe3=>?_) (λe3=>?_)
 ·(have hpos:0<cl.length:=by rw[zA] at e3;exact om);obtain⟨x,hx⟩:=zQ (l:=cl) (i:=cl.length-1) oM
  have hb:=hla x hx;clear hla hln;cbv;refine⟨zC (by rw[zA];exact om) (by rw[zA];exact om),xG hx (by rw[zA];exact om) x5 wT ?_⟩;cbv;refine zE (λe5=>?_) (λe5=>?_)
  ·cbv
   (refine rC ?_;cbv)
   exact zK (by rw[hV,e1,e2,hb,decide_eq_false (by rw[zA] at e5;exact om)];rfl)
  ·(have hb3:b3=true:=by rw[hb];exact decide_eq_true (by rw[zA] at e5;exact om));cbv
   refine cA c3 ?_;cbv;refine cA c4 ?_;cbv;refine yA (λe4=>?_) (λe4=>?_)
   ·cbv;refine cA c5 ?_;cbv
    (refine rC ?_;cbv)
    exact zX (by grind)
   ·cbv
    (refine rC ?_;cbv)
    exact zK (by grind)
 ·have hb3:b3=true:=hln (by cases cl with
   |nil=>rfl| cons a r=>exact absurd (by rw[zA,cX];exact om) e3)
  clear hla hln;cbv;refine cA c3 ?_;cbv;refine cA c4 ?_;cbv;refine yA (λe4=>?_) (λe4=>?_)
  ·cbv;refine cA c5 ?_;cbv
   (refine rC ?_;cbv)
   exact zX (by grind)
  ·cbv
   (refine rC ?_;cbv)
   exact zK (by grind)
structure Cw (s:Scp) (p c:Nat):Prop where
 dp:∀ d,d∈s.path->d.x.sz 3
 v:s.q.valid=true
 qz:s.q.sz (2^14)
 pl:s.path.length<=p
 len:s.lems.length<=c
 l:∀ m,m∈s.lems->(∃ q,m.v=zI q)/\Msz (2^16) m.pf/\m.pf.length<=20
 lb:∀ m,m∈s.lems->Fits (2^13) m.v.q
 r:∀ (i:Nat) m,s.lems[i]?=some m->∀ y,y∈m.pf->RoIn ⟨s.q,s.path,s.lems.take i⟩ y.row
structure Cv (x:FQry) (s:Scp) (p c:Nat) extends Cw s p c where
 z:Isz x s
theorem Isz.lb13 {x:FQry}{s:Scp}(h:Isz x s):∀ m,m∈s.lems->Fits (2^13) m.v.q:=λm hm=>by obtain⟨i,_,hf⟩:=h.lb m hm;exact hf.mono (vI (Gu i) (by decide))
theorem Rv.cv {x:FQry}(hx:Sq x){s:Scp}{p c:Nat}(h:Rv x s p c):Cv x s p c:=by
 refine⟨⟨h.z.p,by rw[h.q];exact hx.s.valid hx.o,?_,h.pl,h.len,h.l,h.z.lb13,h.r⟩,h.z⟩;have hq:s.q.sz 43:=by rw[h.q];exact hx.s.sz
 exact hq.mono (by decide)
def QG {f:A}{N:Int}(h:f.valid N=true)(x:Rat):(rG f x).valid N=true:=by unfold rG;split;{unfold A.valid at *;simp only[yZ] at *;grind [nC]};omega
def PU (raw:List UInt8)(hv:Fits (2^13) (oVq (iJ raw))):Cv (fdY raw 0).1 (clo raw) 7 32:=by
 have hx:=p9 raw;have h:=oY raw;have c:=h.cv hx;have hq:(jS raw).q.sz 43:=by rw[h.q];exact hx.s.sz
 refine⟨⟨h.z.p,?_,⟨hq.g.mono (by decide),hq.r.mono (by decide),?_⟩,h.pl,h.len,h.l,h.z.lb13,λi m hm y hy=>(h.r i m hm y hy).mono (yC _) (yC _)⟩,⟨h.z.g,h.z.r,h.z.p,h.z.pl,h.z.lb⟩⟩;{have:=c.v;unfold Qry.valid at this ⊢;simp only[yZ] at this ⊢;exact⟨this.1,QG this.2 _⟩};{show (rG (jS raw).q.goal (oVq (iJ raw))).sz _;unfold rG;split;{exact⟨hq.goal.t.mono (by decide),zU ((vR (hq.goal.c.fits (by decide)) hv).mono (by decide))⟩};{exact hq.goal.mono (by decide)}}
theorem Cw.usz {s:Scp}{p c:Nat}(h:Cw s p c)(hp:p<=1000)(hc:c<=1000):Usz s/\s.q.sz (2^20)/\Dsz (2^20) s.path/\s.sz (2^20)/\Psz s:=by have hpl:=h.pl;have hlen:=h.len;have hd:Dsz 3 s.path:=⟨by omega,h.dp⟩;have hd':∀ k,3<=k->Dsz k s.path:=λk hk=>⟨hd.len,λd hd'=>(hd.sz d hd').mono hk⟩;have hl:Lsz (2^20) s.lems:=⟨by omega,λm hm=>by obtain⟨q,hq⟩:=(h.l m hm).1;have hf:=h.lb m hm;rw[hq,z9] at hf;rw[hq];exact zU (hf.mono (by decide)),λm hm=>(h.l m hm).2.1.mono (by decide)⟩;exact⟨⟨h.qz.mono (by decide),hd' _ (by decide),hl,h.v⟩,h.qz.mono (by decide),hd' _ (by decide),⟨h.qz.mono (by decide),hd' _ (by decide),hl⟩,⟨h.qz.mono (by decide),hd' _ (by decide),h.v⟩⟩
theorem RoIn.rsm {s:Scp}{r:Row}(h:RoIn s r)(hl:s.lems.length<=1000):Rsm r:=by have h1:=h.i;have h2:=h.lo;have h3:=h.hi;exact⟨by omega,by omega,by omega⟩
theorem Cw.rows {s:Scp}{p c:Nat}(h:Cw s p c){m:Lem}(hm:m∈s.lems):∀ y,y∈m.pf->RoIn s y.row:=λy hy=>by obtain⟨i,hi⟩:=oB hm;exact (h.r i m hi y hy).mono (yC _) (by grind)
theorem Cw.lpf {s:Scp}{p c:Nat}(h:Cw s p c)(hc:c<=1000):Lpf s :=
 ⟨λm hm=>by have:=(h.l m hm).2.2;omega,λm hm y hy=>(h.rows hm y hy).rsm (vI h.len hc)⟩
theorem Cw.backs {s:Scp}{p c:Nat}(h:Cw s p c):s.backs:=λn m hm y hy=>by have:=h.r n m hm y hy;have h1:=this.lo;have h2:=this.hi;grind
def UN {α:Type}(P:α->Bool):∀ l:List α,uF P l<l.length
 |[]=>by show (-1:Int)<((0:Nat):Int);decide| a::r=>by have:=UN P r;rw[show uF P (a::r)=if P a then 0 else if uF P r<0 then -1 else uF P r+1 from rfl,cX];omega
def Hz {s:Scp}{r:Row}(h:RoIn s r):s.rowD r<s.path.length:=by unfold Scp.rowD Scp.fst;split;{rename_i e;exact h.p e};{split;{exact UN _ _};{split;{exact UN _ _};{omega}}}
theorem Cw.reachD {s:Scp}{p c:Nat}(h:Cw s p c){l:List Mult}(hl:∀ m,m∈l->RoIn s m.row){k:Int}(hk:cY s l k):k<s.path.length:=by
 rcases hk with⟨_,m,hm,e⟩|⟨n,hn,_,m,hm,e⟩;{rw[<-e];exact Hz (hl m hm)}
 ·rw[<-e];unfold Scp.pfn at hm;cases hx:s.lems[n.toNat]? with
  |none=>grind| some y =>
   rw[hx] at hm;exact Hz (h.rows (z8 hx) m hm)
def Rh {l:List Nat}{b:Nat}(h:∀ n,n∈l->n<=b):l.sum<=l.length*b:=by
 induction l with
 |nil=>simp| cons a r ih =>
  have h1:=h a wB;have h2:=ih (λn hn=>h n (x9 _ hn));rw[List.sum_cons,cX,Nat.succ_mul];omega
theorem Cw.potv {s:Scp}{p c:Nat}(h:Cw s p c)(hc:c<=1000):pot s []<=1000*20/\um s []<=s.lems.length:=by
 have hlen:=h.len;have hf:∀ P:Nat->Bool,((List.range s.lems.length).filter P).length<=s.lems.length:=λP=>by grind
 refine⟨?_,hf _⟩;unfold Go.Proofs.YtaeaffgjdcigoaaGreat.pot;refine vI (Rh (b:=20) λn hn=>?_) ?_
 ·obtain⟨i,_,rfl⟩:=xB.1 hn;unfold Scp.pfn;cases hx:s.lems[((i:Int)).toNat]? with
  |none=>simp| some y=>exact (h.l y (z8 hx)).2.2
 grind
theorem Cw.used {s:Scp}{p c:Nat}(h:Cw s p c)(hp:p<=1000)(hc:c<=1000){l:List Mult}(hl:∀ m,m∈l->RoIn s m.row)(hn:l.length<=100):zD 14 [sv s,mlv l] (.tup [zlv (w9 (s.marks l).1),zlv (w9 (s.marks l).2)]):=by
 obtain⟨u1,u2,u3,u4,u5⟩:=h.usz hp hc;obtain⟨p1,p2⟩:=h.potv hc;have hlen:=h.len;have hpl:=h.pl;obtain⟨a1,a2⟩:=Qm (s:=s) (l:=l);have w:wgt s ([],[])=0+pot s []:=rfl;have v:vol s ([],[])=0+um s []:=rfl;have hw:=YF s s.lems.length l ([],[]) p2;have hv:=YG s s.lems.length l ([],[]) p2;have hd:=λk=>h.reachD hl (k:=k);obtain⟨e1,e2⟩:=Bc h.backs hd;have:=M8 FK s l u5 (h.lpf hc) ⟨by omega,λm hm=>(hl m hm).rsm oM,by omega,by omega⟩ (λz hz=>by
  rcases hz with g|g
  ·(have g':=(a2 z).1 g;have h0:0<=z:=by rcases g' with g|⟨_,_,g⟩;{exact g.1};{exact g.1});grind
  ·have:=((a1 z).1 g).rng;omega) ⟨by
    have:(sN s s.lems.length l ([],[])).1.length<=wgt s (sN s s.lems.length l ([],[])):=Nat.le_add_right _ _;omega,by
    have:(sN s s.lems.length l ([],[])).2.length<=vol s (sN s s.lems.length l ([],[])):=Nat.le_add_right _ _;omega⟩ p2
 simp_all
def n7 (x:y5):List y5->List y5
 |[]=>[x]| y::r=>if x.1<y.1 then x::y::r else y::n7 x r
def fX (c:List y5) (x:y5):List y5:=if x∈c then c else n7 x c
def mkR (l:List y5):Option (List y5):=if clG none (l.foldl fX [])=true then some (l.foldl fX []) else none
def Qo:ty 64=.sli 2 16 [iV 0,.ff]:=by cbv
def NN (c:List y5)(x:y5)(hc:c.length<2^30):zD 148 [qR c,ltv x] (qR (fX c x)):=by
 refine sF Tryz.f148 ?_;have ch:=Nv c x oM;have hr:fX c x=if x∈c then c else n7 x c:=rfl
 obtain⟨R,hR⟩:=ex (fX c x);have hs:∀ y r,n7 x (y::r)=if x.1<y.1 then x::y::r else y::n7 x r:=λ_ _=>rfl
 have hs0:n7 x []=[x]:=rfl;rw[hR] at hr ⊢;obtain⟨I,hI⟩:=ex (n7 x);rw[hI] at hr hs hs0;clear hI hR;obtain⟨x1,x2⟩:=x;have hap:∀ (o:List y5) y,enc ltc (o++[y])=enc ltc o++zS [ltc y]:=λo y=>by simp[enc,zS]
 dsimp only at hs;cbv;refine cA ch ?_;cbv;refine zE (λh=>?_) (λh=>?_);{rw[if_pos h] at hr;subst hr;cbv;exact rA};rw[if_neg h] at hr;cbv;refine zW (σ:=Nat×List y5×Bool) (λt=>⟨[(0,qR c),(3,.ptr 3 0),(5,oV 40 2 t.2.1.length),(6,bV t.2.2),(7,iV t.1)],[(3,.box [iV x1,bV x2]),(40,aV 2 (enc ltc t.2.1))]⟩)
  (λt=>t.1<=c.length/\R=(if t.2.2=true then t.2.1++c.drop t.1 else t.2.1++I (c.drop t.1))/\t.2.1.length<=2*t.1) (λt=>c.length-t.1) (0,[],false) ⟨yY _,hr,yY _⟩
  (.trans (.le (ps':=⟨[(0,qR c),(3,.ptr 3 0),(5,.nil),(6,bV false),(7,iV (((0:Nat):Int)))],[(3,.box [iV x1,bV x2])]⟩) (by cbv;repeat' first|exact trivial|exact lR|exact zB om|exact z4 rfl (by simp[zS,zA])|exact zK rfl|exact yJ rfl|apply And.intro) okZ rfl)
   (.trans (.adoptT (ps:=⟨[(0,qR c),(3,.ptr 3 0),(5,.nil),(6,bV false),(7,iV (((0:Nat):Int)))],[(3,.box [iV x1,bV x2])]⟩) 40 2 5 rfl rfl) (wkZ))) ?_
 intro t ht;obtain⟨i,o,d⟩:=t;obtain⟨h1,h2,h3⟩:=ht;dsimp only at h1 h2 h3;clear hr;cbv;refine zE (λh5=>?_) (λh5=>?_)
 ·(have hlt:i<c.length:=by rw[zA] at h5;exact om);obtain⟨y,hy⟩:=zQ hlt
  rw[zT hy,hs] at h2;have hy1:=hy;obtain⟨y1,y2⟩:=y;dsimp only at h2;cbv;refine zL 10 (by cbv) ?_;cbv;refine yA (λe=>?_) (λe=>?_);{rw[if_pos e] at h2;cbv;refine yE hy x5 wT ?_;cbv;refine vM Qo rfl rfl rfl (by simp[zA]) rfl ⟨by simp[zS,xD]⟩ (z6 oM (by simp[zS,zA] at *;exact om)) rfl ?_;cbv;refine⟨zC om om,(i+1,o++[(y1,y2)],d),⟨(show i+1<=c.length by omega),?_,by grind⟩,(show c.length-(i+1)<c.length-i by omega),.le (by cbv;repeat' first|exact trivial|exact lR|exact zB om|exact z4 rfl (by simp[zS,zA])|exact zK rfl|exact yJ rfl|apply And.intro) (by cbv;repeat' first|exact trivial|exact lR|exact zG (by rw[hap o (y1,y2)];rfl)|apply And.intro) rfl⟩;grind};{have e:d=false:=e;rw[if_neg (by grind)] at h2;cbv;refine yE hy x5 wT ?_;cbv;refine zE (λe2=>?_) (λe2=>?_);{rw[if_pos e2] at h2;cbv;refine vM Qo rfl rfl rfl (by simp[zA]) rfl ⟨by simp[zS,xD]⟩ (z6 oM (by simp[zS,zA] at *;exact om)) rfl ?_;cbv;refine yE hy x5 wT ?_;cbv;refine vM Qo rfl rfl rfl (by grind) rfl ⟨by simp[zS,xD]⟩ (z6 oM (by simp[zS,zA] at *;exact om)) rfl ?_;cbv;refine⟨zC om om,(i+1,o++[(x1,x2)]++[(y1,y2)],true),⟨(show i+1<=c.length by omega),?_,by grind⟩,(show c.length-(i+1)<c.length-i by omega),.le (by cbv;repeat' first|exact trivial|exact lR|exact zB om|exact z4 rfl (by simp[zS,zA])|exact zK rfl|exact yJ rfl|apply And.intro) (by cbv;repeat' first|exact trivial|exact lR|exact zG (by rw[hap,hap];rfl)|apply And.intro) rfl⟩;grind};{rw[if_neg e2] at h2;cbv;refine yE hy x5 wT ?_;cbv;refine vM Qo rfl rfl rfl (by simp[zA]) rfl ⟨by simp[zS,xD]⟩ (z6 oM (by simp[zS,zA] at *;exact om)) rfl ?_;cbv;refine⟨zC om om,(i+1,o++[(y1,y2)],d),⟨(show i+1<=c.length by omega),?_,by grind⟩,(show c.length-(i+1)<c.length-i by omega),.le (by cbv;repeat' first|exact trivial|exact lR|exact zB om|exact z4 rfl (by simp[zS,zA])|exact zK rfl|exact yJ rfl|apply And.intro) (by cbv;repeat' first|exact trivial|exact lR|exact zG (by rw[hap o (y1,y2)];rfl)|apply And.intro) rfl⟩;grind}}
 ·(have hi:i=c.length:=by rw[zA] at h5;exact om);rw[hi,x8,hs0,kF] at h2
  clear h5;cbv;refine zN (λe=>?_) (λe=>?_)
  ·(have ed:d=true:=by omega);rw[ed,if_pos rfl] at h2
   cbv;refine aI _ (.trans (.le (ps':=⟨[(4,oV 40 2 o.length)],[(40,aV 2 (enc ltc o))]⟩) (by cbv;repeat' first|exact trivial|exact lR|exact zB om|exact z4 rfl (by simp[zS,zA])|exact zK rfl|exact yJ rfl|apply And.intro) (by cbv;repeat' first|exact trivial|exact lR|exact zG rfl|apply And.intro) rfl) (.frz 40 rfl rfl (by cbv;repeat' first|exact trivial|exact z5 (by simp[zA])|apply And.intro) (by cbv;repeat' first|exact trivial|apply And.intro))) rfl (by cbv;exact zR (by rw[h2];exact Kp ltc _))
  ·(have ed:d=false:=by omega);rw[ed,if_neg Wv] at h2
   cbv;refine vM Qo rfl rfl rfl (by simp[zA]) rfl ⟨by simp[zS,xD]⟩ (z6 oM (by simp[zS,zA] at *;exact om)) rfl ?_;cbv;refine aI _ (.trans (.le (ps':=⟨[(4,oV 40 2 ((o++[(x1,x2)]).length))],[(40,aV 2 (enc ltc (o++[(x1,x2)])))]⟩) (by cbv;repeat' first|exact trivial|exact lR|exact zB om|exact z4 rfl (by simp[zS,zA])|exact zK rfl|exact yJ rfl|apply And.intro) (by cbv;repeat' first|exact trivial|exact lR|exact zG (by rw[hap];rfl)|apply And.intro) rfl) (.frz 40 rfl rfl (by cbv;repeat' first|exact trivial|exact z5 (by simp[zA])|apply And.intro) (by cbv;repeat' first|exact trivial|apply And.intro))) rfl (by cbv;exact zR (by rw[h2];exact Kp ltc _))
theorem XG (x:y5):∀ l,(n7 x l).length=l.length+1
 |[]=>rfl| y::r=>by unfold n7;split;{rfl};{simp[XG x r]}
def G5 (c:List y5)(x:y5):(fX c x).length<=c.length+1:=by grind [fX,XG]
def MW (l:List y5)(hl:l.length<2^29):zD 75 [qR l] (.tup [qR ((mkR l).getD []),bV ((mkR l).isSome)]):=by
 refine sF Tryz.f75 ?_;obtain⟨F,hF⟩:∃ F:List y5->List y5->List y5,∀ c l,F c l=l.foldl fX c:=⟨_,λ_ _=>rfl⟩;have hr:mkR l=if clG none (F [] l)=true then some (F [] l) else none:=by rw[hF];rfl
 have hs:∀ c x r,F c (x::r)=F (fX c x) r:=λc x r=>by grind
 have hs0:∀ c,F c []=c:=λc=>by grind
 obtain⟨R,hR⟩:=ex (F [] l);rw[hR] at hr;have hR0:R=F [] (l.drop 0):=hR.symm;clear hF hR;cbv;refine zW (σ:=Nat×List y5) (λt=>⟨[(0,qR l),(4,qR t.2),(5,iV t.1)],[]⟩) (λt=>t.1<=l.length/\R=F t.2 (l.drop t.1)/\t.2.length<=t.1) (λt=>l.length-t.1) (0,[]) ⟨yY _,hR0,yC _⟩ (wkZ) ?_;clear hR0;intro t ht;obtain⟨i,c⟩:=t;obtain⟨h1,h2,h3⟩:=ht;dsimp only at h1 h2 h3;cbv;refine zE (λh5=>?_) (λh5=>?_)
 ·(have hlt:i<l.length:=by rw[zA] at h5;exact om);obtain⟨y,hy⟩:=zQ hlt
  rw[zT hy,hs] at h2;have ci:=NN c y oM;have hl2:=G5 c y;generalize fX c y=c' at *;cbv;refine yE hy x5 wT ?_;cbv;refine cA ci ?_;cbv;exact⟨zC om om,(i+1,c'),⟨(show i+1<=l.length by omega),h2,(show c'.length<=i+1 by omega)⟩,(show l.length-(i+1)<l.length-i by omega),wkZ⟩
 ·(have hi:i=l.length:=by rw[zA] at h5;exact om);rw[hi,x8,hs0] at h2
  subst h2;have cv:=MZ R oM;cbv;refine cA cv ?_;cbv;refine zN (λe=>?_) (λe=>?_)
  ·(have e':clG none R=true:=by omega);rw[if_pos e'] at hr
   rw[hr];cbv;exact rA
  ·(have e':clG none R=false:=by omega);rw[if_neg (by grind)] at hr
   rw[hr];cbv;exact rA
def Tg (a:List Lem)(hl:a.length<2^38)(ha:∀ m,m∈a->m.v.sz (2^32)/\Msz (2^32) m.pf):zD 36 [llv a,llv a] (bV true):=by
 refine sF Tryz.f36 ?_;cbv;refine zE (λ_=>?_) (λe=>absurd rfl e);cbv;refine zW (σ:=Nat) (λi=>⟨[(0,llv a),(1,llv a),(5,iV i)],[]⟩) (λi=>i<=a.length) (λi=>a.length-i) 0 (yY _) (wkZ) ?_;intro i hi;cbv;refine zE (λh5=>?_) (λh5=>?_)
 ·have hlt:=vL h5;obtain⟨x,hx⟩:=zQ hlt;obtain⟨hv,hp⟩:=ha x (z8 hx);have c1:=s69 x.v x.v hv hv;rw[decide_eq_true rfl] at c1;have c2:=Hs x.pf x.pf hp hp;rw[lS] at c2;cbv;refine zL 49 (by cbv) ?_;cbv;refine yE hx yR y4 ?_;cbv;refine yE hx yR y4 ?_;cbv;refine wP rfl ?_;cbv;refine yE hx yR y4 ?_;cbv;refine yE hx yR y4 ?_;cbv
  (all_goals (refine wP rfl ?_));cbv
  refine yE hx yR y4 ?_;cbv;refine yE hx yR y4 ?_;cbv;refine dA c1 ?_;cbv;refine sG rfl ?_;cbv;refine yE hx yR y4 ?_;cbv;refine yE hx yR y4 ?_;cbv;refine cA c2 ?_;cbv;refine fL rfl ?_;cbv;exact⟨zC om om,i+1,om,om,wkZ⟩
 {cbv;exact rA}
def MP (r:Rsn)(h1:r.cl.length<2^38)(h2:r.lems.length<2^38)(h3:∀ m,m∈r.lems->m.v.sz (2^32)/\Msz (2^32) m.pf)(h4:Msz (2^32) r.pf):zD 22 [rsv r,rsv r] (bV true):=by refine sF Tryz.f22 ?_;have c1:=NH r.cl r.cl h1 h1;rw[decide_eq_true rfl] at c1;have c2:=Tg r.lems h2 h3;have c3:=Hs r.pf r.pf h4 h4;rw[lS] at c3;obtain⟨cl,L,em,pf⟩:=r;dsimp only [rsv] at *;clear h1 h2 h3 h4;cbv;refine wP rfl ?_;cbv;refine cA c1 ?_;cbv;refine sG rfl ?_;cbv;refine cA c2 ?_;cbv;refine sG rfl ?_;cbv;refine cA c3 ?_;cbv;exact rA
def NS (s:Scp)(em:Bool)(l:List Mult)(hs:s.sz (2^20))(hg:s.q.goal.ts.length<=2^34)(hv:s.q.goal.valid 9223372036854775807=s.q.goal.valid 4611686018427387904)(hok:SumOk s l):zD 42 [sv s,bV em,mlv l] (bV (s.closes em l)):=by
 refine sF Tryz.f42 ?_;have c1:=BX s l hs hok;have c2:=Ht s s.q.goal l hs (hs.q.goal.mono (by decide)) hg hok;have e1:em=true->s.closes em l=s.refutes l:=λh=>by unfold Scp.closes;grind
 have e2:em=false->s.closes em l=s.provesR s.q.goal l:=λh=>by unfold Scp.closes Scp.proves Scp.provesR;grind
 generalize s.closes em l=r at *;generalize s.refutes l=r1 at *;generalize s.provesR s.q.goal l=r2 at *;clear hs hg hv hok;obtain⟨⟨⟨n,us,os⟩,⟨lo,hi',rows⟩,⟨ts,c⟩⟩,path,L⟩:=s;dsimp only [sv] at *;cbv;refine zN (λe=>?_) (λe=>?_);{have:=e1 e;subst this;cbv;refine cA c1 ?_;cbv;exact rA};{have:=e2 e;subst this;cbv;refine cA c2 ?_;cbv;exact rA}
def rgo (M:List Bool):List Lem->Nat->List Lem->List Int->List Lem×List Int
 |[],_,acc,to=>(acc,to)| m::r,i,acc,to=>if M.getD i false=true then rgo M r (i+1) (acc++[⟨m.u,m.up,m.v,m.pf.map (rnM to)⟩]) (to.set i (acc.length+1)) else rgo M r (i+1) acc to
def aU (s:Scp) (em:Bool) (l:List Mult):Rsn×Int :=
 if s.scopeB=false then (R00n,1)
 else if s.closes em l=false then (R00n,12)
 else match lgo s (w9 (s.marks l).1) [] with
  |none=>(R00n,10)
  |some ls=>match mkR ls with
   |none=>(R00n,10)| some c=>(⟨c,(rgo (s.marks l).2 s.lems 0 [] (List.replicate s.lems.length 0)).1,em,l.map (rnM (rgo (s.marks l).2 s.lems 0 [] (List.replicate s.lems.length 0)).2)⟩,0)
structure LnrOk (s:Scp) (l:List Mult):Prop where
 sz:s.sz (2^20)
 sc:∀ (i:Nat) (m:Lem),s.lems[i]?=some m->SumOk (s.pre i) m.pf
 hg:s.q.goal.ts.length<=2^34
 hv:s.q.goal.valid 9223372036854775807=s.q.goal.valid 4611686018427387904
 cl:SumOk s l
 ps:Psz s
 n:l.length<2^30
 pf:∀ m,m∈s.lems->m.pf.length<2^30
 pl:s.path.length<=1000
 ll:s.lems.length<=1000
 m1:(s.marks l).1.length=s.path.length
 m2:(s.marks l).2.length=s.lems.length
def Tv (s:Scp)(em:Bool)(l:List Mult)(h:LnrOk s l):zD 21 [sv s,bV em,mlv l] (.tup [rsv (aU s em l).1,iV ((aU s em l).2)]):=by
 refine sF Tryz.f21 ?_;have c1:=Rm s h.sz h.sc;have c2:=NS s em l h.sz h.hg h.hv h.cl;have cm:=Nk s l h.ps (gT h.n (by decide)) (xL h.ll (by decide)) (λm hm=>gT (h.pf m hm) (by decide));have hM1:=h.m1;have hM2:=h.m2;have ci:=Nt (s.marks l).1 (by have:=h.pl;omega);have hD:∀ k,k∈w9 (s.marks l).1->0<=k/\s.path[k.toNat]?=some (s.dec k):=λk hk=>by obtain⟨j,rfl,g2,g3⟩:=pJ.1 hk;obtain⟨d,hd'⟩:=zQ (l:=s.path) (i:=j) oM;have e:(j:Int).toNat=j:=rfl;unfold Scp.dec;grind
 have hDl:(w9 (s.marks l).1).length<=1000:=by have:=nQ (s.marks l).1 (s.marks l).1.length;have:=h.pl;grind [w9]
 have hR:aU s em l=if s.scopeB=false then ((R00n,1):Rsn×Int)
  else if s.closes em l=false then (R00n,12)
  else match lgo s (w9 (s.marks l).1) [] with
   |none=>(R00n,10)
   |some ls=>match mkR ls with
    |none=>(R00n,10)| some c=>(⟨c,(rgo (s.marks l).2 s.lems 0 [] (List.replicate s.lems.length 0)).1,em,l.map (rnM (rgo (s.marks l).2 s.lems 0 [] (List.replicate s.lems.length 0)).2)⟩,0):=rfl
 have c4:=λk=>Nr (s.dec k);have cM:=λls (h2:ls.length<2^29)=>MW ls h2;have cr:=λ(f:List Mult) (to:List Int) (h2:f.length<2^30) (h3:to.length<=1000)=>Ng f to (gT h2 (by decide)) oM;have hpl:=h.pl;have hll:=h.ll;have hpf:=h.pf;have hln:=h.n;have hgo:∀ k r acc,lgo s (k::r) acc=match pF (s.dec k) with
  |none=>none| some x=>lgo s r (acc++[(x.1,!x.2)]):=λ_ _ _=>rfl
 have hgn:∀ acc,lgo s [] acc=some acc:=λ_=>rfl;obtain⟨GO,hGO⟩:∃ GO:List Int->List y5->Option (List y5),∀ r acc,lgo s r acc=GO r acc:=⟨_,λ_ _=>rfl⟩;obtain⟨RR,hRR⟩:=ex (aU s em l);obtain⟨RG,hRG⟩:∃ G:List Lem->Nat->List Lem->List Int->List Lem×List Int,∀ r i a t,rgo (s.marks l).2 r i a t=G r i a t:=⟨_,λ_ _ _ _=>rfl⟩;have hrn:∀ i a t,RG [] i a t=(a,t):=λi a t=>by rw[<-hRG];rfl
 have hrc:∀ m r i a t,RG (m::r) i a t=if (s.marks l).2.getD i false=true then RG r (i+1) (a++[⟨m.u,m.up,m.v,m.pf.map (rnM t)⟩]) (t.set i (a.length+1)) else RG r (i+1) a t:=λm r i a t=>by rw[<-hRG,<-hRG,<-hRG];rfl
 rw[hRR] at hR ⊢;simp only[hGO,hRG] at hgo hgn hR;obtain⟨MK,hMK⟩:∃ MK:List y5->Option (List y5),∀ r,mkR r=MK r:=⟨_,λ_=>rfl⟩;simp only[hMK] at cM hR;clear hRR hGO hRG hMK h;generalize s.scopeB=b1 at *;generalize s.closes em l=b2 at *;generalize w9 (s.marks l).1=D at *;generalize Scp.dec s=dec at *;generalize s.marks l=MM at *;obtain⟨MD,M⟩:=MM;obtain⟨r1,e9⟩:=RR;obtain⟨⟨⟨n,us,os⟩,⟨lo,hi',rows⟩,⟨ts,c⟩⟩,path,L⟩:=s;dsimp only [sv] at *;cbv;refine cA c1 ?_;cbv;refine zN (λe=>?_) (λe=>?_)
 rotate_left
 {rw[if_pos e] at hR;cases hR;cbv;exact rA};rw[if_neg (by rw[e];decide)] at hR;cbv;refine cA c2 ?_;cbv;refine zN (λe2=>?_) (λe2=>?_)
 rotate_left
 {rw[if_pos e2] at hR;cases hR;cbv;exact rA};rw[if_neg (by rw[e2];decide)] at hR;clear c1 c2;cbv;refine kA (λn=>n) cm ?_;cbv;have hf1:0+path.length<=(enc bc MD).length:=by grind [zA]
 have hf2:0+L.length<=(enc bc M).length:=by grind [zA]
 have t1:((enc bc MD).drop 0).take path.length=enc bc MD:=by grind [zA]
 have t2:((enc bc M).drop 0).take L.length=enc bc M:=by rw[wN,<-hM2,<-zA bc M,vP]
 refine qO (.trans (.frz 100 rfl rfl (by cbv;repeat' first|exact trivial|exact z5 hf1|apply And.intro) (by cbv;repeat' first|exact trivial|apply And.intro)) (.frz 101 rfl rfl (by cbv;repeat' first|exact trivial|exact z5 hf2|apply And.intro) (by cbv;repeat' first|exact trivial|apply And.intro))) rfl (by exact⟨zR t1,trivial⟩) ci rfl ?_;clear ci cm hf1 hf2 t1;cbv;refine zW (σ:=Nat×List y5) (λt=>⟨[(1,bV em),(2,mlv l),(3,.ptr 3 0),(6,.ptr 6 0),(9,.sl (λ_=>enc bc M)),(10,oV 64 2 t.2.length),(11,zlv D),(12,iV t.1)],[(3,.box [iV n,alv us,alv os,rlv lo,rlv hi',alv rows,tsv ts,bV c.neg,nat c.num,nat c.den,dlv path,llv L]),(6,.box [.nil,.nil,.ff,.nil]),(64,aV 2 (enc ltc t.2))]⟩)
  (λt=>t.1<=D.length/\GO D []=GO (D.drop t.1) t.2/\t.2.length=t.1) (λt=>D.length-t.1) (0,[]) ⟨yY _,rfl,rfl⟩
  (.trans (.le (ps':=⟨[(1,bV em),(2,mlv l),(3,.ptr 3 0),(6,.ptr 6 0),(9,.sl (λ_=>enc bc M)),(10,.nil),(11,zlv D),(12,iV (((0:Nat):Int)))],[(3,.box [iV n,alv us,alv os,rlv lo,rlv hi',alv rows,tsv ts,bV c.neg,nat c.num,nat c.den,dlv path,llv L]),(6,.box [.nil,.nil,.ff,.nil])]⟩) (by cbv;repeat' first|exact trivial|exact lR|exact zR t2|apply And.intro) okZ rfl)
   (.trans (.adoptT (ps:=⟨[(1,bV em),(2,mlv l),(3,.ptr 3 0),(6,.ptr 6 0),(9,.sl (λ_=>enc bc M)),(10,.nil),(11,zlv D),(12,iV (((0:Nat):Int)))],[(3,.box [iV n,alv us,alv os,rlv lo,rlv hi',alv rows,tsv ts,bV c.neg,nat c.num,nat c.den,dlv path,llv L]),(6,.box [.nil,.nil,.ff,.nil])]⟩) 64 2 10 rfl rfl) (wkZ))) ?_
 intro t ht;obtain⟨i,acc⟩:=t;obtain⟨h1,h2,h3⟩:=ht;dsimp only at h1 h2 h3;cbv;refine zE (λh=>?_) (λh=>?_)
 ·have hlt:=vL h;obtain⟨k,hk⟩:=zQ hlt;have hkm:=z8 hk;obtain⟨k0,hp⟩:=hD k hkm;have c5:=c4 k;rw[zT hk,hgo] at h2;generalize dec k=d at *;clear c4 cM cr hD hrc hrn;cbv;refine w5 14 [(13,13)] (by cbv) (by cbv) (by cbv) ?_;cbv;refine yE hk kN fI ?_;cbv;refine xG hp (by exact om) vN qE ?_;cbv;refine dA c5 ?_;cbv;cases hx:pF d with
  |none =>
   rw[hx] at h2;dsimp only at h2;rw[h2] at hR;dsimp only at hR;cases hR;cbv;refine ZC rfl ?_;cbv;exact rA
  |some x =>
   (rw[hx] at h2;dsimp only at h2;have c9:=Tz x;have hen:enc ltc (acc++[(x.1,!x.2)])=enc ltc acc++zS [ltc (x.1,!x.2)]:=by simp[enc,zS]);have hal:(acc++[(x.1,!x.2)]).length=i+1:=by grind
   clear c5 hR;obtain⟨x1,x2⟩:=x;dsimp only at *;cbv;refine fL rfl ?_;cbv;refine cA c9 ?_;cbv;refine vM K3 rfl rfl rfl (by simp[zA]) rfl ⟨by simp[zS,xD]⟩ (z6 oM (by simp[zS,zA] at *;exact om)) rfl ?_;cbv;exact⟨zC om om,(i+1,acc++[(x1,!x2)]),⟨(show i+1<=D.length by omega),h2,hal⟩,(show D.length-(i+1)<D.length-i by omega),.le (by cbv;repeat' first|exact trivial|exact lR|exact zB om|exact z4 rfl (by simp[zS,zA])|apply And.intro) (by cbv;repeat' first|exact trivial|exact lR|exact zG (by rw[hen];rfl)|apply And.intro) rfl⟩
 have hiD:i=D.length:=qD h h1;rw[hiD,x8,hgn] at h2;rw[h2] at hR;dsimp only at hR;have cm:=cM acc oM;have hT:((enc ltc acc).drop 0).take acc.length=enc ltc acc:=by rw[wN,<-zA ltc acc,vP]
 have hfr:0+acc.length<=(enc ltc acc).length:=by grind [zA]
 clear cM c4 h2 hgo hgn hD t2;cbv;refine qO (.frz 64 rfl rfl (by cbv;repeat' first|exact trivial|exact z5 hfr|apply And.intro) (by cbv;repeat' first|exact trivial|apply And.intro)) rfl (by exact⟨zR hT,trivial⟩) cm rfl ?_;cbv;cases hx:MK acc with
 |none =>
  rw[hx] at hR;dsimp only at hR;cases hR;cbv;refine ZC rfl ?_;cbv;exact rA
 |some cl =>
  (rw[hx] at hR;dsimp only at hR;cases hR;clear cm;cbv;refine fL rfl ?_;cbv;refine⟨z6 (by grind) (by simp only[zA];exact om),kM (by grind) oM,?_⟩;have hz0:∀ n:Nat,n=L.length->enc ic (List.replicate L.length 0)=List.replicate n [.int .i64 0]:=λn h=>by rw[h];unfold enc;rw[List.map_replicate];rfl);refine zW (σ:=Nat×List Lem×List Int) (λt=>⟨[(2,mlv l),(3,.ptr 3 0),(6,.ptr 6 0),(9,.sl (λ_=>enc bc M)),(17,oV 76 1 L.length),(18,.ptr 18 0),(19,iV t.1)],[(3,.box [iV n,alv us,alv os,rlv lo,rlv hi',alv rows,tsv ts,bV c.neg,nat c.num,nat c.den,dlv path,llv L]),(6,.box [.nil,.nil,.ff,.nil]),(76,aV 1 (enc ic t.2.2)),(18,.box [qR cl,oV 105 6 t.2.1.length,bV em,.nil]),(105,aV 6 (enc lc t.2.1))]⟩)
   (λt=>t.1<=L.length/\RG L 0 [] (List.replicate L.length 0)=RG (L.drop t.1) t.1 t.2.1 t.2.2/\t.2.2.length=L.length/\t.2.1.length<=t.1) (λt=>L.length-t.1) (0,[],List.replicate L.length 0) ⟨yY _,rfl,Gn,yC _⟩
   (.trans (.le (ps':=⟨[(2,mlv l),(3,.ptr 3 0),(6,.ptr 6 0),(9,.sl (λ_=>enc bc M)),(17,oV 76 1 L.length),(18,.ptr 18 0),(19,iV (((0:Nat):Int)))],[(3,.box [iV n,alv us,alv os,rlv lo,rlv hi',alv rows,tsv ts,bV c.neg,nat c.num,nat c.den,dlv path,llv L]),(6,.box [.nil,.nil,.ff,.nil]),(76,aV 1 (enc ic (List.replicate L.length 0))),(18,.box [qR cl,.nil,bV em,.nil])]⟩) (by cbv;repeat' first|exact trivial|exact lR|exact z4 rfl (by simp[zA])|apply And.intro) (by cbv;repeat' first|exact trivial|exact lR|exact zG (hz0 _ (by simp[zA])).symm|apply And.intro) rfl)
    (.trans (.adoptB (ps:=⟨[(2,mlv l),(3,.ptr 3 0),(6,.ptr 6 0),(9,.sl (λ_=>enc bc M)),(17,oV 76 1 L.length),(18,.ptr 18 0),(19,iV (((0:Nat):Int)))],[(3,.box [iV n,alv us,alv os,rlv lo,rlv hi',alv rows,tsv ts,bV c.neg,nat c.num,nat c.den,dlv path,llv L]),(6,.box [.nil,.nil,.ff,.nil]),(76,aV 1 (enc ic (List.replicate L.length 0))),(18,.box [qR cl,.nil,bV em,.nil])]⟩) (cs:=[qR cl,.nil,bV em,.nil]) 105 6 18 1 rfl rfl rfl) (wkZ))) ?_
  clear h hz0 hT hfr;intro t ht;obtain⟨j,bc',to⟩:=t;obtain⟨g1,g2,g3,g4⟩:=ht;dsimp only at g1 g2 g3 g4;cbv;refine zE (λh=>?_) (λh=>?_)
  ·have hlt:=vL h;obtain⟨m,hm⟩:=zQ hlt;obtain⟨mb,hmb⟩:=zQ (l:=M) (i:=j) oM;have c5:=cr m.pf to (hpf m (z8 hm)) oM;rw[zT hm,hrc,show M.getD j false=mb by grind] at g2;rw[g3] at c5;cbv;refine yE hmb tF iM ?_;cbv;refine zN (λe=>?_) (λe=>?_)
   ·(rw[if_pos e] at g2;have hen:enc lc (bc'++[⟨m.u,m.up,m.v,m.pf.map (rnM to)⟩])=enc lc bc'++zS [lc ⟨m.u,m.up,m.v,m.pf.map (rnM to)⟩]:=by simp[enc,zS]);clear cr
    (cbv;refine yE hm yR y4 ?_;cbv;refine kA (λ_=>76) c5 ?_;cbv;refine vM rD rfl rfl rfl (by rw[zA]) rfl ⟨by simp[zS,xD]⟩ (z6 oM (by rw[zA];simp[zS];exact om)) rfl ?_;cbv;refine⟨yX om om,tA (p:=ic) to rfl j om oM kN fI (λt0 ht0=>?_)⟩;cbv;have hst:∀ (k:Nat) (v:Int),k=j->v=((bc'.length+1:Nat):Int)->(enc ic to).set k [.int .i64 v]=enc ic (to.set j ((bc'.length+1:Nat):Int)):=λk v e1 e2=>by rw[e1,e2,<-s3];rfl);exact⟨zC om om,(j+1,bc'++[⟨m.u,m.up,m.v,m.pf.map (rnM to)⟩],to.set j ((bc'.length+1:Nat):Int)),⟨(show j+1<=L.length by omega),g2,by grind,(by grind)⟩,(show L.length-(j+1)<L.length-j by omega),
     .le (by cbv;repeat' first|exact trivial|exact lR|exact zB om|apply And.intro) (by cbv;repeat' first|exact trivial|exact lR|exact z4 rfl (by simp[zS,zA])|exact zG (show (enc ic to).set (0+((j:Nat):Int).toNat) [.int .i64 (((enc lc bc').length+1:Nat):Int)]=_ from hst _ _ oM (by rw[zA]))|exact zG (by rw[hen];rfl)|apply And.intro) rfl⟩
   {rw[if_neg (by grind)] at g2;cbv;exact⟨zC om om,(j+1,bc',to),⟨(show j+1<=L.length by omega),g2,g3,(show bc'.length<=j+1 by omega)⟩,(show L.length-(j+1)<L.length-j by omega),wkZ⟩}
  ·(have hjL:j=L.length:=qD h g1;have c8:=cr l to hln oM;rw[hjL,x8,hrn] at g2;rw[g2];rw[g3] at c8;have hT2:((enc lc bc').drop 0).take bc'.length=enc lc bc':=by rw[wN,<-zA lc bc',vP]);have hfr2:0+bc'.length<=(enc lc bc').length:=by grind [zA]
   clear cr g2;cbv;refine kW (λ_=>76) (.frz 105 rfl rfl (by cbv;repeat' first|exact trivial|exact z5 hfr2|apply And.intro) (by cbv;repeat' first|exact trivial|exact z5 hfr2|apply And.intro)) c8 ?_;cbv
   (refine rC ?_;cbv)
   exact⟨⟨lR,zR hT2,lR,lR,trivial⟩,lR,trivial⟩
end Go.Proofs.YtaeaffgjdcigoaaGreat
