/- A part of the proof: KsG, KpL, KtA, KtB, KtC, KpM, KpN, KpO. -/
import Derived.Test.YtaeaffgjdcigoaaGreatW37
import Derived.Test.YtaeaffgjdcigoaaGreatW36
import Derived.Test.YtaeaffgjdcigoaaGreatW34
import Derived.Test.YtaeaffgjdcigoaaGreatW31
import Derived.Test.YtaeaffgjdcigoaaGreatW35
set_option linter.all false
namespace Go.Proofs.YtaeaffgjdcigoaaGreat
open Go
set_option maxRecDepth 100000
set_option maxHeartbeats 8000000
def xM (l:xH):Dec:=⟨if (!l.2)=true then 1 else 2,l.1,R0⟩
def dJ (q:Qry) (r:Rsn):Scp:=⟨q,r.cl.map xM,r.lems⟩
def Lr (q:Qry)(r:Rsn)(hc:r.cl.length<2^30):zC 32 [qv q,rsv r] (sv (dJ q r)):=by
 refine sF Tryz.f32 ?_;have c1:=λl:xH=>To l;have c2:=λl:xH=>Nl l;have hS:dJ q r=⟨q,r.cl.map xM,r.lems⟩:=rfl;obtain⟨S9,hS9⟩:=ex (dJ q r);rw[hS9] at hS ⊢;clear hS9;obtain⟨cl,lems,em,pf⟩:=r;obtain⟨⟨n,us,os⟩,⟨lo,hi',rows⟩,⟨ts,c⟩⟩:=q;dsimp only at *;subst hS;dsimp only [sv] at *;cbv;refine z7 (σ:=Nat) (λi=>⟨[(4,.ptr 4 0),(5,.ptr 5 0),(13,bX cl),(14,iV cl.length),(15,iV i)],[(4,.box [iV 0,.nil,.nil,.nil,.nil,.nil,.nil,.ff,.nil,.nil,.nil,.nil]),(5,.box [iV n,alv us,alv os,rlv lo,rlv hi',alv rows,tsv ts,zL c.neg,nat c.num,nat c.den,yX 25 5 i,llv lems]),(25,xF 5 (enc dc ((cl.take i).map xM)))]⟩)
  (λi=>i<=cl.length) (λi=>cl.length-i) 0 (xA _)
  (.trans (.le (ps':=⟨[(4,.ptr 4 0),(5,.ptr 5 0),(13,bX cl),(14,iV cl.length),(15,iV (((0:Nat):Int)))],[(4,.box [iV 0,.nil,.nil,.nil,.nil,.nil,.nil,.ff,.nil,.nil,.nil,.nil]),(5,.box [iV n,alv us,alv os,rlv lo,rlv hi',alv rows,tsv ts,zL c.neg,nat c.num,nat c.den,.nil,llv lems])]⟩) (by cbv;repeat' first|exact trivial|exact lR|exact zB (by (try dsimp only [zV] at *);rw[zA])|apply And.intro) okZ rfl)
   (.trans (.adoptB (ps:=⟨[(4,.ptr 4 0),(5,.ptr 5 0),(13,bX cl),(14,iV cl.length),(15,iV (((0:Nat):Int)))],[(4,.box [iV 0,.nil,.nil,.nil,.nil,.nil,.nil,.ff,.nil,.nil,.nil,.nil]),(5,.box [iV n,alv us,alv os,rlv lo,rlv hi',alv rows,tsv ts,zL c.neg,nat c.num,nat c.den,.nil,llv lems])]⟩) (cs:=[iV n,alv us,alv os,rlv lo,rlv hi',alv rows,tsv ts,zL c.neg,nat c.num,nat c.den,.nil,llv lems]) 25 5 5 10 rfl rfl rfl) (wkZ))) ?_
 intro i hi;cbv;refine zF (λh=>?_) (λh=>?_)
 ·(have hlt:i<cl.length:=by exact om);obtain⟨x,hx⟩:=zS hlt
  (have hen:enc dc ((cl.take (i+1)).map xM)=enc dc ((cl.take i).map xM)++zW [dc (xM x)]:=by rw[tC,hx];simp[enc,zW]);have hln:(enc dc ((cl.take i).map xM)).length=i:=by rw[zA,y4,kX];omega
  have d1:=c1 x;have d2:zC 91 [ltv (x.1,!x.2)] (dv (xM x)):=c2 (x.1,!x.2);generalize xM x=d at *;clear c1 c2;cbv;refine yL hx vH vG ?_;cbv;refine zM 6 (by cbv) ?_;cbv;refine dA d1 ?_;cbv;refine dA d2 ?_;cbv;refine jU iK rfl rfl rfl (by rw[hln]) rfl ⟨by simp[zW,xT]⟩ (z8 oM (by rw[hln];simp[zW];exact om)) rfl ?_;cbv;exact⟨zD om om,i+1,(show i+1<=cl.length by omega),(show cl.length-(i+1)<cl.length-i by omega),.le okZ (by cbv;repeat' first|exact trivial|exact lR|exact zT rfl (by rw[hln];simp[zW])|exact zG (by rw[hen];rfl)|apply And.intro) rfl⟩
 ·(have hi2:i=cl.length:=by exact om);have hT:((enc dc ((cl.take i).map xM)).drop 0).take i=enc dc (cl.map xM):=by rw[hi2,v9,wZ,yU (by rw[zA,y4];omega)]
  (have hfr:0+i<=(enc dc ((cl.take i).map xM)).length:=by rw[zA,y4,kX];omega);cbv
  refine bD _ (.frz 25 rfl rfl (by cbv;repeat' first|exact trivial|exact zZ hfr|apply And.intro) (by cbv;repeat' first|exact trivial|exact zZ hfr|apply And.intro)) rfl ?_;cbv;exact⟨lR,lR,lR,lR,lR,lR,lR,lR,lR,lR,zR hT,lR,trivial⟩
def bZ (q:Qry) (c:List xH):Bool:=match c[c.length-1]? with
 |some x=>decide (x.1<q.g.us.length)| none=>true
def w4 (q:Qry) (r:Rsn):Bool:=q.valid&&(clG none r.cl&&(bZ q r.cl&&((dJ q r).scopeB&&(dJ q r).closes r.em r.pf)))
structure RsnOk (q:Qry) (r:Rsn):Prop where
 sz:q.sz (2^20)
 cl:r.cl.length<=1000
 lz:Lsz (2^20) r.lems
 pf:∀ m,m∈r.lems->m.pf.length<=100
 pz:Msz (2^23) r.pf
 pn:r.pf.length<=100
theorem RsnOk.scp {q:Qry}{r:Rsn}(h:RsnOk q r):(dJ q r).sz (2^20):=⟨h.sz,⟨by show (r.cl.map xM).length<_;rw[y4];have:=h.cl;omega,λd hd=>by obtain⟨x,_,rfl⟩:=yZ.1 hd;exact⟨xA _,xA _⟩⟩,h.lz⟩
def DT (q:Qry)(r:Rsn)(h:RsnOk q r):zC 24 [qv q,rsv r] (zL (w4 q r)):=by
 refine sF Tryz.f24 ?_;have hcl:=h.cl;have hul:=h.sz.g.us.len;have c1:=mL q (h.sz.mono (by decide));have c2:=Ng r.cl oM;have c3:=Lr q r oM;have c4:=Kn (dJ q r) h.scp h.pf;have c5:=Nc (dJ q r) r.em r.pf h.scp h.pz h.pn;have hV:w4 q r=(q.valid&&(clG none r.cl&&(bZ q r.cl&&((dJ q r).scopeB&&(dJ q r).closes r.em r.pf)))):=rfl;have hla:∀ x,r.cl[r.cl.length-1]?=some x->bZ q r.cl=decide (x.1<q.g.us.length):=λx hx=>by grind [bZ]
 have hln:r.cl=[]->bZ q r.cl=true:=λhx=>by grind [bZ]
 generalize w4 q r=v at *;generalize dJ q r=S at *;generalize S.scopeB=b4 at *;generalize S.closes r.em r.pf=b5 at *;generalize clG none r.cl=b2 at *;generalize q.valid=b1 at *;generalize bZ q r.cl=b3 at *;clear h;obtain⟨cl,lems,em,pf⟩:=r;obtain⟨⟨n,us,os⟩,⟨lo,hi',rows⟩,⟨ts,c⟩⟩:=q;dsimp only [sv] at *;cbv;refine cA c1 ?_;cbv;refine yB (λe1=>?_) (λe1=>?_)
 rotate_left
 ·cbv
  (refine rC ?_;cbv)
  exact zK (by grind)
 cbv;refine cA c2 ?_;cbv;refine zO (λe2=>?_) (λe2=>?_)
 rotate_left
 ·cbv
  (refine rC ?_;cbv)
  exact zK (by grind)
 cbv;refine zM 14 (by cbv) ?_;cbv;refine zQ (λe3=>?_) (λe3=>?_)
 ·(have hpos:0<cl.length:=by rw[zA] at e3;exact om);obtain⟨x,hx⟩:=zS (l:=cl) (i:=cl.length-1) oM
  have hb:=hla x hx;clear hla hln;cbv;refine⟨zD (by rw[zA];exact om) (by rw[zA];exact om),x5 hx (by rw[zA];exact om) vH vG ?_⟩;cbv;refine zF (λe5=>?_) (λe5=>?_)
  ·cbv
   (refine rC ?_;cbv)
   exact zK (by rw[hV,e1,e2,hb,decide_eq_false (by rw[zA] at e5;exact om)];rfl)
  ·(have hb3:b3=true:=by rw[hb];exact decide_eq_true (by rw[zA] at e5;exact om));cbv
   refine cA c3 ?_;cbv;refine cA c4 ?_;cbv;refine yB (λe4=>?_) (λe4=>?_)
   ·cbv;refine cA c5 ?_;cbv
    (refine rC ?_;cbv)
    exact zX (by grind)
   ·cbv
    (refine rC ?_;cbv)
    exact zK (by grind)
 ·have hb3:b3=true:=hln (by cases cl with
   |nil=>rfl| cons a r=>exact absurd (by rw[zA,rK];exact om) e3)
  clear hla hln;cbv;refine cA c3 ?_;cbv;refine cA c4 ?_;cbv;refine yB (λe4=>?_) (λe4=>?_)
  ·cbv;refine cA c5 ?_;cbv
   (refine rC ?_;cbv)
   exact zX (by grind)
  ·cbv
   (refine rC ?_;cbv)
   exact zK (by grind)
structure Cw (s:Scp) (p c:Nat):Prop where
 dp:∀ d,d∈s.path->d.x.sz 3
 v:s.q.valid=true
 qz:s.q.sz (2^14)
 pl:s.path.length<=p
 len:s.lems.length<=c
 l:∀ m,m∈s.lems->(∃ q,m.v=zI q)/\Msz (2^16) m.pf/\m.pf.length<=20
 lb:∀ m,m∈s.lems->Fits (2^13) m.v.q
 r:∀ (i:Nat) m,s.lems[i]?=some m->∀ y,y∈m.pf->RoIn ⟨s.q,s.path,s.lems.take i⟩ y.row
structure Cv (x:FQry) (s:Scp) (p c:Nat) extends Cw s p c where
 z:Isz x s
theorem Isz.lb13 {x:FQry}{s:Scp}(h:Isz x s):∀ m,m∈s.lems->Fits (2^13) m.v.q:=λm hm=>by obtain⟨i,_,hf⟩:=h.lb m hm;exact hf.mono (vL (AE i) (by decide))
theorem Rv.cv {x:FQry}(hx:Sq x){s:Scp}{p c:Nat}(h:Rv x s p c):Cv x s p c:=by
 refine⟨⟨h.z.p,by rw[h.q];exact hx.s.valid hx.o,?_,h.pl,h.len,h.l,h.z.lb13,h.r⟩,h.z⟩;have hq:s.q.sz 43:=by rw[h.q];exact hx.s.sz
 exact hq.mono (by decide)
def Kt {f:A}{N:Int}(h:f.valid N=true)(x:Rat):(dT f x).valid N=true:=by unfold dT;split;{unfold A.valid at *;simp only[yP] at *;grind [rS]};omega
def MC (raw:List UInt8)(hv:Fits (2^13) (oV (mE raw))):Cv (fdY raw 0).1 (clo raw) 7 32:=by
 have hx:=pH raw;have h:=lM raw;have c:=h.cv hx;have hq:(jJ raw).q.sz 43:=by rw[h.q];exact hx.s.sz
 refine⟨⟨h.z.p,?_,⟨hq.g.mono (by decide),hq.r.mono (by decide),?_⟩,h.pl,h.len,h.l,h.z.lb13,λi m hm y hy=>(h.r i m hm y hy).mono (yD _) (yD _)⟩,⟨h.z.g,h.z.r,h.z.p,h.z.pl,h.z.lb⟩⟩;{have:=c.v;unfold Qry.valid at this ⊢;simp only[yP] at this ⊢;exact⟨this.1,Kt this.2 _⟩};{show (dT (jJ raw).q.goal (oV (mE raw))).sz _;unfold dT;split;{exact⟨hq.goal.t.mono (by decide),zU ((uC (hq.goal.c.fits (by decide)) hv).mono (by decide))⟩};{exact hq.goal.mono (by decide)}}
theorem Cw.usz {s:Scp}{p c:Nat}(h:Cw s p c)(hp:p<=1000)(hc:c<=1000):Usz s/\s.q.sz (2^20)/\Dsz (2^20) s.path/\s.sz (2^20)/\Psz s:=by have hpl:=h.pl;have hlen:=h.len;have hd:Dsz 3 s.path:=⟨by omega,h.dp⟩;have hd':∀ k,3<=k->Dsz k s.path:=λk hk=>⟨hd.len,λd hd'=>(hd.sz d hd').mono hk⟩;have hl:Lsz (2^20) s.lems:=⟨by omega,λm hm=>by obtain⟨q,hq⟩:=(h.l m hm).1;have hf:=h.lb m hm;rw[hq,z6] at hf;rw[hq];exact zU (hf.mono (by decide)),λm hm=>(h.l m hm).2.1.mono (by decide)⟩;exact⟨⟨h.qz.mono (by decide),hd' _ (by decide),hl,h.v⟩,h.qz.mono (by decide),hd' _ (by decide),⟨h.qz.mono (by decide),hd' _ (by decide),hl⟩,⟨h.qz.mono (by decide),hd' _ (by decide),h.v⟩⟩
theorem RoIn.rsm {s:Scp}{r:Row}(h:RoIn s r)(hl:s.lems.length<=1000):Rsm r:=by have h1:=h.i;have h2:=h.lo;have h3:=h.hi;exact⟨by omega,by omega,by omega⟩
theorem Cw.rows {s:Scp}{p c:Nat}(h:Cw s p c){m:Lem}(hm:m∈s.lems):∀ y,y∈m.pf->RoIn s y.row:=λy hy=>by obtain⟨i,hi⟩:=cR hm;exact (h.r i m hi y hy).mono (yD _) (by grind)
theorem Cw.lpf {s:Scp}{p c:Nat}(h:Cw s p c)(hc:c<=1000):Lpf s :=
 ⟨λm hm=>by have:=(h.l m hm).2.2;omega,λm hm y hy=>(h.rows hm y hy).rsm (vL h.len hc)⟩
theorem Cw.backs {s:Scp}{p c:Nat}(h:Cw s p c):s.backs:=λn m hm y hy=>by have:=h.r n m hm y hy;have h1:=this.lo;have h2:=this.hi;grind
def Qo {α:Type}(P:α->Bool):∀ l:List α,v6 P l<l.length
 |[]=>by show (-1:Int)<((0:Nat):Int);decide| a::r=>by have:=Qo P r;rw[show v6 P (a::r)=if P a then 0 else if v6 P r<0 then -1 else v6 P r+1 from rfl,rK];omega
def Gr {s:Scp}{r:Row}(h:RoIn s r):s.rowD r<s.path.length:=by unfold Scp.rowD Scp.fst;split;{rename_i e;exact h.p e};{split;{exact Qo _ _};{split;{exact Qo _ _};{omega}}}
theorem Cw.reachD {s:Scp}{p c:Nat}(h:Cw s p c){l:List Mult}(hl:∀ m,m∈l->RoIn s m.row){k:Int}(hk:cK s l k):k<s.path.length:=by
 rcases hk with⟨_,m,hm,e⟩|⟨n,hn,_,m,hm,e⟩;{rw[<-e];exact Gr (hl m hm)}
 ·rw[<-e];unfold Scp.pfn at hm;cases hx:s.lems[n.toNat]? with
  |none=>grind| some y =>
   rw[hx] at hm;exact Gr (h.rows (z3 hx) m hm)
def Ta {l:List Nat}{b:Nat}(h:∀ n,n∈l->n<=b):l.sum<=l.length*b:=by
 induction l with
 |nil=>simp| cons a r ih =>
  have h1:=h a wI;have h2:=ih (λn hn=>h n (wJ _ hn));rw[List.sum_cons,rK,Nat.succ_mul];omega
theorem Cw.potv {s:Scp}{p c:Nat}(h:Cw s p c)(hc:c<=1000):pot s []<=1000*20/\um s []<=s.lems.length:=by
 have hlen:=h.len;have hf:∀ P:Nat->Bool,((List.range s.lems.length).filter P).length<=s.lems.length:=λP=>by grind
 refine⟨?_,hf _⟩;unfold Go.Proofs.YtaeaffgjdcigoaaGreat.pot;refine vL (Ta (b:=20) λn hn=>?_) ?_
 ·obtain⟨i,_,rfl⟩:=yZ.1 hn;unfold Scp.pfn;cases hx:s.lems[((i:Int)).toNat]? with
  |none=>simp| some y=>exact (h.l y (z3 hx)).2.2
 grind
theorem Cw.used {s:Scp}{p c:Nat}(h:Cw s p c)(hp:p<=1000)(hc:c<=1000){l:List Mult}(hl:∀ m,m∈l->RoIn s m.row)(hn:l.length<=100):zC 14 [sv s,mlv l] (.tup [zlv (vM (s.marks l).1),zlv (vM (s.marks l).2)]):=by
 obtain⟨u1,u2,u3,u4,u5⟩:=h.usz hp hc;obtain⟨p1,p2⟩:=h.potv hc;have hlen:=h.len;have hpl:=h.pl;obtain⟨a1,a2⟩:=Q5 (s:=s) (l:=l);have w:wgt s ([],[])=0+pot s []:=rfl;have v:vol s ([],[])=0+um s []:=rfl;have hw:=Xk s s.lems.length l ([],[]) p2;have hv:=Xl s s.lems.length l ([],[]) p2;have hd:=λk=>h.reachD hl (k:=k);obtain⟨e1,e2⟩:=AG h.backs hd;have:=LI DL s l u5 (h.lpf hc) ⟨by omega,λm hm=>(hl m hm).rsm oM,by omega,by omega⟩ (λz hz=>by
  rcases hz with g|g
  ·(have g':=(a2 z).1 g;have h0:0<=z:=by rcases g' with g|⟨_,_,g⟩;{exact g.1};{exact g.1});grind
  ·have:=((a1 z).1 g).rng;omega) ⟨by
    have:(rJ s s.lems.length l ([],[])).1.length<=wgt s (rJ s s.lems.length l ([],[])):=Nat.le_add_right _ _;omega,by
    have:(rJ s s.lems.length l ([],[])).2.length<=vol s (rJ s s.lems.length l ([],[])):=Nat.le_add_right _ _;omega⟩ p2
 simp_all
def Qm (x:xH):List xH->List xH
 |[]=>[x]| y::r=>if x.1<y.1 then x::y::r else y::Qm x r
def Ud (c:List xH) (x:xH):List xH:=if x∈c then c else Qm x c
def mkR (l:List xH):Option (List xH):=if clG none (l.foldl Ud [])=true then some (l.foldl Ud []) else none
def H6:ty 64=.sli 2 16 [iV 0,.ff]:=by cbv
def Lp (a:List Lem)(hl:a.length<2^38)(ha:∀ m,m∈a->m.v.sz (2^32)/\Msz (2^32) m.pf):zC 36 [llv a,llv a] (zL true):=by
 refine sF Tryz.f36 ?_;cbv;refine zF (λ_=>?_) (λe=>absurd rfl e);cbv;refine z7 (σ:=Nat) (λi=>⟨[(0,llv a),(1,llv a),(5,iV i)],[]⟩) (λi=>i<=a.length) (λi=>a.length-i) 0 (xA _) (wkZ) ?_;intro i hi;cbv;refine zF (λh5=>?_) (λh5=>?_)
 ·have hlt:=jS h5;obtain⟨x,hx⟩:=zS hlt;obtain⟨hv,hp⟩:=ha x (z3 hx);have c1:=s69 x.v x.v hv hv;rw[decide_eq_true rfl] at c1;have c2:=Gj x.pf x.pf hp hp;rw[iN] at c2;cbv;refine zM 49 (by cbv) ?_;cbv;refine yL hx xB y7 ?_;cbv;refine yL hx xB y7 ?_;cbv;refine wP rfl ?_;cbv;refine yL hx xB y7 ?_;cbv;refine yL hx xB y7 ?_;cbv
  (all_goals (refine wP rfl ?_));cbv
  refine yL hx xB y7 ?_;cbv;refine yL hx xB y7 ?_;cbv;refine dA c1 ?_;cbv;refine rZ rfl ?_;cbv;refine yL hx xB y7 ?_;cbv;refine yL hx xB y7 ?_;cbv;refine cA c2 ?_;cbv;refine dE rfl ?_;cbv;exact⟨zD om om,i+1,om,om,wkZ⟩
 {cbv;exact rA}
def Nx (s:Scp)(em:Bool)(l:List Mult)(hs:s.sz (2^20))(hg:s.q.goal.ts.length<=2^34)(hv:s.q.goal.valid 9223372036854775807=s.q.goal.valid 4611686018427387904)(hok:SumOk s l):zC 42 [sv s,zL em,mlv l] (zL (s.closes em l)):=by
 refine sF Tryz.f42 ?_;have c1:=Sm s l hs hok;have c2:=Gk s s.q.goal l hs (hs.q.goal.mono (by decide)) hg hok;have e1:em=true->s.closes em l=s.refutes l:=λh=>by unfold Scp.closes;grind
 have e2:em=false->s.closes em l=s.provesR s.q.goal l:=λh=>by unfold Scp.closes Scp.proves Scp.provesR;grind
 generalize s.closes em l=r at *;generalize s.refutes l=r1 at *;generalize s.provesR s.q.goal l=r2 at *;clear hs hg hv hok;obtain⟨⟨⟨n,us,os⟩,⟨lo,hi',rows⟩,⟨ts,c⟩⟩,path,L⟩:=s;dsimp only [sv] at *;cbv;refine zO (λe=>?_) (λe=>?_);{have:=e1 e;subst this;cbv;refine cA c1 ?_;cbv;exact rA};{have:=e2 e;subst this;cbv;refine cA c2 ?_;cbv;exact rA}
structure LnrOk (s:Scp) (l:List Mult):Prop where
 sz:s.sz (2^20)
 sc:∀ (i:Nat) (m:Lem),s.lems[i]?=some m->SumOk (s.pre i) m.pf
 hg:s.q.goal.ts.length<=2^34
 hv:s.q.goal.valid 9223372036854775807=s.q.goal.valid 4611686018427387904
 cl:SumOk s l
 ps:Psz s
 n:l.length<2^30
 pf:∀ m,m∈s.lems->m.pf.length<2^30
 pl:s.path.length<=1000
 ll:s.lems.length<=1000
 m1:(s.marks l).1.length=s.path.length
 m2:(s.marks l).2.length=s.lems.length
theorem GW (x y:xH)(h:x.1<y.1):∀ l,Qm x (l++[y])=Qm x l++[y]
 |[]=>by show (if x.1<y.1 then x::[y] else y::Qm x [])=[x]++[y];grind| z::t=>by rw[Vv];unfold Qm;split;{rfl};{rw[GW x y h t];rfl}
def KX (x:xH):∀ l:List xH,(∀ z,z∈l->¬x.1<z.1)->Qm x l=l++[x]
 |[],_=>rfl| z::t,h=>by unfold Qm;rw[if_neg (h z wI),KX x t (λw hw=>h w (wJ _ hw))];rfl
def dsc (l:List xH):Prop:=l.Pairwise λa b=>b.1<a.1
def Ac {a b:Int}:cI a b<0↔a<b:=by grind [cI]
def Wp {x y:xH}:∀ {l:List xH},y∈bH x l->y=x\/y∈l
 |[],h=>by grind [bH]| z::t,h=>by unfold bH at h;split at h;{rcases yG.1 h with g|g;{grind};{have:=Wp g;grind}};{grind}
def KY {x:xH}:∀ {c:List xH},dsc c->(∀ y,y∈c->x.1≠y.1)->Qm x c.reverse=(bH x c).reverse/\dsc (bH x c)
 |[],_,_=>⟨rfl,by grind [bH,dsc]⟩| z::t,h,hne=>by
  obtain⟨h1,h2⟩:=cH.1 h;obtain⟨i1,i2⟩:=KY (x:=x) h2 (λy hy=>hne y (wJ _ hy));unfold bH;split
  ·rename_i hlt;have hlt':=Ac.1 hlt;refine⟨by grind [GW],cH.2 ⟨λy hy=>?_,i2⟩⟩;rcases Wp hy with rfl|g
   all_goals grind
  {rename_i hlt;have hge:¬x.1<z.1:=λg=>hlt (Ac.2 g);have hzx:=hne z wI;refine⟨?_,cH.2 ⟨λy hy=>?_,h⟩⟩;{rw[List.reverse_cons (a:=x)];refine KX x _ λw hw=>?_;grind};grind}
def GI:∀ (l c:List xH),dsc c->(∀ x,x∈l->∀ y,y∈c->x.1≠y.1)->l.Pairwise (λa b=>a.1≠b.1) ->l.foldl Ud c.reverse=(l.foldl (λa x=>bH x a) c).reverse/\dsc (l.foldl (λa x=>bH x a) c)
 |[],c,h,_,_=>⟨rfl,h⟩| x::r,c,h,hne,hp=>by
  obtain⟨p1,p2⟩:=cH.1 hp;have hx:=hne x wI;obtain⟨i1,i2⟩:=KY h hx;have hno:x∉c.reverse:=λg=>hx x (List.mem_reverse.1 g) rfl;rw[Ds,Ds,show Ud c.reverse x=(bH x c).reverse by unfold Ud;grind];refine GI r (bH x c) i2 (λz hz y hy=>?_) p2;rcases Wp hy with rfl|g
  all_goals grind
def SY {l:List xH}(h:l.Pairwise (λa b=>a.1≠b.1)):mkR l=mkP l/\XW (bG l).reverse:=by
 obtain⟨h1,h2⟩:=GI l [] List.Pairwise.nil (λx _ y hy=>absurd hy (by simp)) h;have e:l.foldl Ud []=(bG l).reverse:=h1;refine⟨by grind [mkR,mkP],?_⟩;have h3:(bG l).reverse.Pairwise (λa b=>a.1<b.1):=List.pairwise_reverse.2 h2;generalize (bG l).reverse=k at h3;clear h1 h2 e h;induction k with
 |nil=>trivial| cons a r ih =>
  obtain⟨q1,q2⟩:=cH.1 h3;cases r with
  |nil=>trivial| cons b t=>exact⟨λe=>by grind,ih q2⟩
def uk (d:Dec):Prop:=d.k=1\/d.k=2
structure UD (q:Qry) (p:List Dec):Prop where
 f:∀ d,d∈p->uk d->d.fits q=true
 d:p.Pairwise λa b=>uk a->uk b->a.i≠b.i
theorem UD.nil (q:Qry):UD q []:=⟨λd hd=>absurd hd (by simp),List.Pairwise.nil⟩
theorem UD.snoc {q:Qry}{p:List Dec}{d:Dec}(h:UD q p)(hd:uk d->d.fits q=true/\∀ e,e∈p->uk e->e.i≠d.i):UD q (p++[d]):=by refine⟨λe he hk=>?_,List.pairwise_append.2 ⟨h.d,by simp,λa ha b hb ka kb=>?_⟩⟩;{rcases uX.1 he with g|g;{exact h.f e g hk};grind};grind
theorem UD.free {s:Scp}(h:UD s.q s.path){u:Int}(h1:s.dcd 1 u=false)(h2:s.dcd 2 u=false):∀ e,e∈s.path->uk e->e.i≠u:=λe he hk hu=>by
 have hf:=h.f e he hk;unfold Scp.dcd at h1 h2;rw[List.any_eq_false] at h1 h2;rcases hk with k|k
 all_goals grind
def lH {q:Qry}{k i:Int}(hk:k=1\/k=2)(h:0<=i/\i<q.g.us.length):(⟨k,i,R0⟩:Dec).fits q=true:=by unfold Dec.fits;grind
def Zi {raw:List UInt8}{q:Qry}{n m:Nat}(hm:q.g.us.length=m):∀ {k a:Nat} {p:List Dec},UD q p->UD q (t7 raw q n m k p a)
 |0,a,p,h=>h| k+1,a,p,h=>by have h4:=kP (raw:=raw) (n:=4) (a:=a) (by decide);unfold t7;dsimp only;split;{rename_i hk;refine Zi hm (h.snoc λg=>?_);grind [uk]};{split;{exact Zi hm h};{split;{exact Zi hm h};{rename_i h1 h2 h3;have hi:=kP (raw:=raw) (n:=m) (a:=na raw a) oM;refine Zi hm (h.snoc λg=>⟨lH g ⟨by (try dsimp only);omega,by (try dsimp only);omega⟩,?_⟩);exact UD.free (s:=⟨q,p,[]⟩) h (by grind) (by grind)}}}
theorem pR (n:Nat):∀ (us:List A) (j:Nat) (s:Scp),(runG n us j s).path=s.path/\(runG n us j s).q=s.q
 |[],_,_=>⟨rfl,rfl⟩| p::r,j,s=>pR n r (j+1) _
def U7 {n:Nat}:∀ {k j:Nat} {s:Scp},j+k<=s.q.g.us.length->UD s.q s.path->UD (opnG n k j s).q (opnG n k j s).path
 |0,j,s,_,h=>h| k+1,j,s,hj,h=>by unfold opnG;split;{rename_i hc;refine U7 (k:=k) (s:=⟨s.q,s.path++[⟨1+((n+7*j)%4:Nat),j,R0⟩],s.lems⟩) (by show j+1+k<=s.q.g.us.length;omega) ?_;refine UD.snoc h λg=>⟨lH g ⟨by (try dsimp only);omega,by (try dsimp only);omega⟩,?_⟩;have ho:=hc.1;unfold Scp.opn at ho;simp only[yP,YF,Fm] at ho;exact h.free ho.1.1 ho.2.1};{exact U7 oM h}
def MD (raw:List UInt8):UD (clo raw).q (clo raw).path:=by
 have h0:UD (fdS raw).q (fdS raw).path:=Zi (by show ((fdY raw 0).1.g.us.map fA).length=_;simp) (UD.nil _);have h1:UD (ext raw).q (ext raw).path:=by unfold ext;split;{exact h0};omega
 have h2:UD (dvd raw).q (dvd raw).path:=by unfold dvd;split;{obtain⟨e1,e2⟩:=pR (y9 raw%5) (ext raw).q.g.us 0 (ext raw);grind [Scp.run]};omega
 have h3:UD ((dvd raw).run (y9 raw%3)).q ((dvd raw).run (y9 raw%3)).path:=by grind [pR,Scp.run]
 have h4:=U7 (n:=y9 raw) (k:=((dvd raw).run (y9 raw%3)).q.g.us.length) (j:=0) (s:=(dvd raw).run (y9 raw%3)) oM h3;have h5:UD (jJ raw).q (jJ raw).path:=by unfold jJ;dsimp only;split;{unfold Scp.run;rw[(pR 1 _ 0 _).1,(pR 1 _ 0 _).2];exact h4};{exact h4}
 exact⟨λd hd hk=>(h5.f d hd hk:_),h5.d⟩
def B9 (raw:List UInt8):(clo raw).path.Pairwise λa b=>uk a->uk b->a.i≠b.i:=(MD raw).d
def Qi {s:Scp}:∀ {D:List Int} {acc ls:List xH},lgo s D acc=some ls->(∀ k,k∈D->uk (s.dec k))/\ls.map Prod.fst=acc.map Prod.fst++D.map λk=>(s.dec k).i
 |[],acc,ls,h=>by cases h;grind
 |k::r,acc,ls,h=>by unfold lgo at h;unfold lV at h;by_cases hk:(s.dec k).k=1\/(s.dec k).k=2;{rw[if_pos hk] at h;obtain⟨i1,i2⟩:=Qi h;refine⟨λj hj=>?_,by grind⟩;rcases yG.1 hj with rfl|g;{exact hk};grind};grind
def FS {s:Scp}(hp:s.path.Pairwise λa b=>uk a->uk b->a.i≠b.i){l:List Mult}(hl:(s.marks l).1.length=s.path.length){ls:List xH}(h:lgo s (vM (s.marks l).1) []=some ls):ls.Pairwise λa b=>a.1≠b.1:=by
 obtain⟨h1,h2⟩:=Qi h;have h3:(ls.map Prod.fst).Pairwise (·≠·):=by
  (rw[h2,W0,JF,List.pairwise_map];refine (YX (s.marks l).1).imp_of_mem λ{a b} ha hb hab=>?_;obtain⟨j,rfl,g1,_⟩:=s9.1 ha;obtain⟨k,rfl,g2,_⟩:=s9.1 hb;have ka:=h1 _ ha;have kb:=h1 _ hb;have ea:s.dec (j:Int)=s.path[j]'oM:=by unfold Scp.dec;grind);have eb:s.dec (k:Int)=s.path[k]'oM:=by unfold Scp.dec;grind
  grind [List.pairwise_iff_getElem]
 grind
theorem H2 {a b:Int}(hab:a<=b):∀ {p:Int} {l:List (Int×R)},vT a p l=true->vT b p l=true
 |_,[],_=>rfl| p,t::r,h=>by unfold vT at h ⊢;simp only[yP,decide_eq_true_eq] at h ⊢;obtain⟨⟨⟨⟨⟨h1,h2⟩,h3⟩,h4⟩,h5⟩,h6⟩:=h;exact⟨⟨⟨⟨⟨h1,by omega⟩,h3⟩,h4⟩,h5⟩,H2 hab h6⟩
theorem A.valid_mono {f:A}{a b:Int}(h:f.valid a=true)(hab:a<=b):f.valid b=true:=by unfold A.valid at h ⊢;simp only[yP] at h ⊢;grind [H2]
theorem Cw.sz16 {s:Scp}{p c:Nat}(h:Cw s p c)(hp:p<=1000)(hc:c<=1000):s.sz (2^16):=by have hpl:=h.pl;have hlen:=h.len;refine⟨h.qz.mono (by decide),⟨by omega,λd hd=>(h.dp d hd).mono (by decide)⟩,⟨by omega,λm hm=>?_,λm hm=>(h.l m hm).2.1⟩⟩;obtain⟨q,hq⟩:=(h.l m hm).1;have hf:=h.lb m hm;rw[hq,z6] at hf;rw[hq];exact zU (hf.mono (by decide))
def nR {s:Scp}(h:s.sz (2^16)){l:List Mult}(hl:Msz (2^16) l)(hn:l.length<=20):SumOk s l where
 fm:=λm hm f hf=>(Bv h (by decide) hf).mono (by decide) (yD _)
 c:=hl.mono (by decide)
 pre:=λi acc hacc=>by
  (have hi:(l.take i).length<=20:=by grind);exact (UJ h (by decide) (λm hm=>(hl.sz m (aE hm)).mono (by decide)) zero_fl hacc).mono oM oM
theorem Scp.sz.pre {s:Scp}{k:Nat}(h:s.sz k)(i:Nat):(s.pre i).sz k :=
 ⟨h.q,h.path,⟨by have:=h.lems.len;show (s.lems.take i).length<2^38;grind,λm hm=>h.lems.sz m (aE hm),λm hm=>h.lems.pf m (aE hm)⟩⟩
structure Lft (s:Scp) (l:List Mult):Prop where
 w:Cw s 8 32
 n:l.length<=20
 z:Msz (2^16) l
 r:∀ m,m∈l->RoIn s m.row
theorem Lft.marks {s:Scp}{l:List Mult}(h:Lft s l):(s.marks l).1.length=s.path.length/\(s.marks l).2.length=s.lems.length:=by obtain⟨m1,m2,_,_⟩:=iU h.w.backs l;omega
structure Lfit (s:Scp) (l:List Mult):Prop extends Lft s l where
 u:∀ ls,lgo s (vM (s.marks l).1) []=some ls->mkR ls=mkP ls/\XW (bG ls).reverse
theorem Lft.fit {s:Scp}{l:List Mult}(h:Lft s l)(hp:s.path.Pairwise λa b=>uk a->uk b->a.i≠b.i):Lfit s l:=⟨h,λls hls=>SY (FS hp h.marks.1 hls)⟩
def Qn {l:List Bool}{k:Int}(h:k∈vM l):0<=k/\k<l.length:=by obtain⟨j,rfl,g,_⟩:=s9.1 h;omega
theorem Lfit.lrn {s:Scp}{l:List Mult}(h:Lfit s l):LrnOk s l:=by
 obtain⟨u1,u2,u3,u4,u5⟩:=h.w.usz (by decide) (by decide);obtain⟨m1,m2⟩:=h.marks;have hl:=h.w.len;have hp:=h.w.pl;have b1:=lG (s.marks l).1 (s.marks l).1.length;have b2:=lG (s.marks l).2 (s.marks l).2.length;refine⟨u4,λm hm=>⟨by have:=(h.w.l m hm).2.2;omega,(h.w.lpf (by decide)).2 m hm⟩,h.z.mono (by decide),by have:=h.n;omega,λm hm=>(h.r m hm).rsm oM,h.w.used (by decide) (by decide) h.r (by have:=h.n;omega),λk hk=>?_,λk hk=>?_,?_,?_,λls hls=>(h.u ls hls).2⟩;{have:=Qn hk;omega};{have:=Qn hk;omega}
 all_goals grind [vM]
theorem Lft.lnr {s:Scp}{l:List Mult}(h:Lft s l):LnrOk s l:=by obtain⟨u1,u2,u3,u4,u5⟩:=h.w.usz (by decide) (by decide);obtain⟨m1,m2⟩:=h.marks;have hl:=h.w.len;have hp:=h.w.pl;have z:=h.w.sz16 (by decide) (by decide);have hv:=h.w.v;unfold Qry.valid at hv;simp only[yP] at hv;have hn:=Qry.vok_of h.w.v;refine⟨u4,λi m hm=>nR (z.pre i) (h.w.l m (z3 hm)).2.1 (h.w.l m (z3 hm)).2.2,?_,?_,nR z h.z h.n,u5,by have:=h.n;omega,λm hm=>by have:=(h.w.l m hm).2.2;omega,by omega,by omega,m1,m2⟩;{have h1:=hn.n1;have h2:=hn.n2;have h3:=hn.ul;have:=nP hv.2 (by grind [Grp.vars]);grind [Grp.vars]};{have h1:=hn.n1;have h2:=hn.n2;have h3:=hn.ul;grind [A.valid_mono,Grp.vars]}
def GG {l:List Mult}{k:Nat}(h:Msz k l)(I:List Int):Msz k (l.map (rnP I)):=⟨by rw[y4];exact h.len,λm hm=>by obtain⟨y,hy,rfl⟩:=yZ.1 hm;exact h.sz y hy⟩
end Go.Proofs.YtaeaffgjdcigoaaGreat
