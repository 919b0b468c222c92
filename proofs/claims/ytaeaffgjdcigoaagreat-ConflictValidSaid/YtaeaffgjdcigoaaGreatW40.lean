/- A part of the proof: KqF, KuA, KvA, KwA, KwB, KwC. -/
import Derived.Test.YtaeaffgjdcigoaaGreatW39
import Derived.Test.YtaeaffgjdcigoaaGreatW35
import Derived.Test.YtaeaffgjdcigoaaGreatW38
import Derived.Test.YtaeaffgjdcigoaaGreatW46
import Derived.Test.YtaeaffgjdcigoaaGreatW31
import Derived.Test.YtaeaffgjdcigoaaGreatW34
set_option linter.all false
namespace Go.Proofs.YtaeaffgjdcigoaaGreat
open Go
set_option maxRecDepth 100000
set_option maxHeartbeats 8000000
def GS {s:Scp}{x u:Int}{up:Bool}(h:(s.lem x u up).isSome=true):1<=x/\x<=s.lems.length:=by by_cases g:1<=x/\x<=s.lems.length;{exact g};{rw[ZZ g] at h;cases h}
def dC {α:Type}{c Q:Prop}[Decidable c]{x y:α}(h:(if c then some x else none)=some y)(k:c->Q):Q:=by by_cases e:c;{exact k e};{rw[if_neg e] at h;cases h}
def Bs {s:Scp}{r:Row}{g:F}(h:s.fm r=some g):(0<=r.lo/\r.lo<=s.lems.length)/\0<=r.hi/\r.hi<=s.lems.length:=by
 have pl:r.plain=true->r.lo=0/\r.hi=0:=λe=>by unfold Row.plain at e;simpa using e
 unfold Scp.fm at h;split at h;{cases h}
 ·split at h;{unfold Scp.fIn at h;split at h;{rename_i e;obtain⟨e1,e2⟩:=pl e.1;omega};{cases h}}
  ·unfold Scp.fUn at h;split at h
   ·split at h
    ·have k1:=λe=>GS (s:=s) (x:=r.lo) (u:=r.i) (up:=false) e;have k2:=λe=>GS (s:=s) (x:=r.hi) (u:=r.i) (up:=true) e;generalize s.lem r.lo r.i false=l at *;generalize s.lem r.hi r.i true=u at *;have key:(l.isSome=true\/r.lo=0)/\(u.isSome=true\/r.hi=0):=by
      (have on:∀ {P:Prop},onB s r (l.getD 0) l.isSome=true->(l.isSome=true\/r.lo=0)/\(u.isSome=true\/r.hi=0):=λg=>by unfold onB at g;simp only[yP,Va,decide_eq_true_eq] at g;exact⟨g.2.elim (λw=>.inr w.1) (λw=>.inl w.1),.inr g.1⟩);have off:pZ s r (u.getD 0) u.isSome=true->(l.isSome=true\/r.lo=0)/\(u.isSome=true\/r.hi=0):=λg=>by unfold pZ at g;simp only[yP,Va,decide_eq_true_eq] at g;exact⟨.inr g.1,g.2.elim (λw=>.inr w.1) (λw=>.inl w.1)⟩
      have pp:r.plain=true->(l.isSome=true\/r.lo=0)/\(u.isSome=true\/r.hi=0):=λg=>⟨.inr (pl g).1,.inr (pl g).2⟩;unfold unF at h;by_cases e:r.k=5;{rw[if_pos e] at h;exact dC h pp};rw[if_neg e] at h;clear e;by_cases e:r.k=6;{rw[if_pos e] at h;exact dC h pp};rw[if_neg e] at h;clear e;by_cases e:r.k=7;{rw[if_pos e] at h;exact dC h (on (P:=True))};rw[if_neg e] at h;clear e;by_cases e:r.k=8;{rw[if_pos e] at h;exact dC h (on (P:=True))};rw[if_neg e] at h;clear e;by_cases e:r.k=9;{rw[if_pos e] at h;exact dC h off};rw[if_neg e] at h;clear e;by_cases e:r.k=10;{rw[if_pos e] at h;exact dC h off};rw[if_neg e] at h;clear e;by_cases e:r.k=11;{rw[if_pos e] at h;exact dC h λg=>⟨.inl g.1,.inr g.2⟩};rw[if_neg e] at h;clear e;by_cases e:r.k=12;{rw[if_pos e] at h;exact dC h λg=>⟨.inr g.2,.inl g.1⟩};rw[if_neg e] at h;clear e;by_cases e:r.k=13;{rw[if_pos e] at h;exact dC h λg=>⟨.inl g.1,.inl g.2.1⟩};rw[if_neg e] at h;cases h
     grind
    {cases h}
   {cases h}
def shL (d:Int) (m:Lem):Lem:=⟨m.u,m.up,m.v,m.pf.map (shM d)⟩
def Gs {q:Qry}{path:List Dec}{L RL:List Lem}(n:Nat):Rn ((⟨q,path,L⟩:Scp).pre n) ((⟨q,path,RL++L.map (shL RL.length)⟩:Scp).pre (RL.length+n)) (shI RL.length) (λx=>0<=x/\x<=(n:Int)/\x<=(L.length:Int)):=by
 refine⟨rfl,if_neg oM,⟨by omega,by omega,by omega⟩,λa b ha hb hab=>by unfold shI;grind,λx hx h0 u up=>?_⟩;have e:shI RL.length x=x+RL.length:=if_pos oM;rw[e,YT oM,YT oM];obtain⟨m,hm⟩:=zS (l:=L) (i:=(x-1).toNat) oM;have hm':(RL++L.map (shL RL.length))[(x+(RL.length:Int)-1).toNat]?=some (shL RL.length m):=by rw[iH oM,show (x+(RL.length:Int)-1).toNat-RL.length=(x-1).toNat by omega,dH,hm];rfl
 rw[i4 (s:=⟨q,path,RL++L.map (shL RL.length)⟩) oM (by simp only[gD,y4];omega) hm',i4 (s:=⟨q,path,L⟩) oM (by show x<=(L.length:Int);omega) hm];rfl
def Kq {q:Qry}{path:List Dec}{L RL:List Lem}{n k:Nat}(hp:∀ d,d∈path->d.k=1\/d.k=2){r:Row}{g:F}(h:((⟨q,path,L⟩:Scp).pre n).fm r=some g):RnR ((⟨q,path,L⟩:Scp).pre n) ((⟨q,path,RL++L.map (shL RL.length)⟩:Scp).pre k) (λx=>0<=x/\x<=(n:Int)/\x<=(L.length:Int)) r:=by
 obtain⟨h1,h2⟩:=Bs h;have hl:((⟨q,path,L⟩:Scp).pre n).lems.length<=n/\((⟨q,path,L⟩:Scp).pre n).lems.length<=L.length:=by show (L.take n).length<=n/\(L.take n).length<=L.length;rw[kX];omega
 refine⟨⟨by omega,by omega,by omega⟩,⟨by omega,by omega,by omega⟩,λe=>?_,λ_ _=>rfl,λ_ _=>rfl⟩;obtain⟨d,g1,g2,g3⟩:=(Bq h).1 e;have:=hp d (z3 g2);omega
def Gw (s:Scp){n:Nat}(h:s.lems.length<=n):s.pre n=s:=by unfold Scp.pre;rw[yU h]
def Hz {q:Qry}{path:List Dec}{L RL:List Lem}(hp:∀ d,d∈path->d.k=1\/d.k=2)(hs:(⟨q,path,L⟩:Scp).scopeB=true)(hR:Ve q path RL):(⟨q,path,RL++L.map (shL RL.length)⟩:Scp).scopeB=true/\∀ em l,(⟨q,path,L⟩:Scp).closes em l=true->(⟨q,path,RL++L.map (shL RL.length)⟩:Scp).closes em (l.map (shM RL.length))=true:=by
 refine⟨?_,λem l h=>?_⟩
 ·unfold Scp.scopeB at hs ⊢;simp only[yP] at hs ⊢;refine⟨hs.1,hs.2.1,mY λj m hm=>?_⟩;rw[jW];by_cases hj:j<RL.length;{rw[JJ hj] at hm;have:=hR j m hm;show (⟨q,path,(RL++L.map (shL RL.length)).take j⟩:Scp).lemB m=true;rwa [HW oM]}
  ·rw[iH oM,dH] at hm;obtain⟨n,rfl⟩:∃ n,j=RL.length+n:=⟨j-RL.length,by omega⟩;rw[Nat.add_sub_cancel_left] at hm;cases ha:L[n]? with
   |none=>rw[ha] at hm;cases hm
   |some a =>
    rw[ha] at hm;have e:shL RL.length a=m:=kF hm;have hb:=rU hs.2.2 ha;rw[jW] at hb;rw[<-hb];refine (Gs n).lemB (λy hy=>?_) e.symm;obtain⟨g,hg⟩:=Z0 hb y hy;exact Kq hp hg
 {have r:=Gs (q:=q) (path:=path) (L:=L) (RL:=RL) L.length;rw[<-h];have e1:(⟨q,path,L⟩:Scp).pre L.length=⟨q,path,L⟩:=Gw _ (yD _);have e2:(⟨q,path,RL++L.map (shL RL.length)⟩:Scp).pre (RL.length+L.length)=⟨q,path,RL++L.map (shL RL.length)⟩:=Gw _ (by simp);rw[e1,e2] at r;refine r.closes (λy hy=>?_) em;obtain⟨g,hg⟩:=nE h y hy;have:=Kq (RL:=RL) (L:=L) (q:=q) (path:=path) (n:=L.length) (k:=RL.length+L.length) hp (r:=y.row) (g:=g) (by rw[e1];exact hg);rwa [e1,e2] at this}
def DW (q:Qry)(r:Rsn)(hc:r.cl.length<2^30):zC 33 [qv q,rsv r] (sv (dJ q r)):=by
 refine sF Tryz.f33 ?_;have c1:=λl:xH=>LP l;have c2:=λl:xH=>L8 l;have hS:dJ q r=⟨q,r.cl.map xM,r.lems⟩:=rfl;obtain⟨S9,hS9⟩:=ex (dJ q r);rw[hS9] at hS ⊢;clear hS9;obtain⟨cl,lems,em,pf⟩:=r;obtain⟨⟨n,us,os⟩,⟨lo,hi',rows⟩,⟨ts,c⟩⟩:=q;dsimp only at *;subst hS;dsimp only [sv] at *;cbv;refine z7 (σ:=Nat) (λi=>⟨[(3,.ptr 3 0),(4,.ptr 4 0),(5,.ptr 5 0),(6,iV i)],[(3,.box [bX cl,llv lems,zL em,mlv pf]),(4,.box [iV 0,.nil,.nil,.nil,.nil,.nil,.nil,.ff,.nil,.nil,.nil,.nil]),(5,.box [iV n,alv us,alv os,rlv lo,rlv hi',alv rows,tsv ts,zL c.neg,nat c.num,nat c.den,yX 25 5 i,llv lems]),(25,xF 5 (enc dc ((cl.take i).map xM)))]⟩)
  (λi=>i<=cl.length) (λi=>cl.length-i) 0 (xA _)
  (.trans (wkZ (ps':=⟨[(3,.ptr 3 0),(4,.ptr 4 0),(5,.ptr 5 0),(6,iV (((0:Nat):Int)))],[(3,.box [bX cl,llv lems,zL em,mlv pf]),(4,.box [iV 0,.nil,.nil,.nil,.nil,.nil,.nil,.ff,.nil,.nil,.nil,.nil]),(5,.box [iV n,alv us,alv os,rlv lo,rlv hi',alv rows,tsv ts,zL c.neg,nat c.num,nat c.den,.nil,llv lems])]⟩))
   (.trans (.adoptB (ps:=⟨[(3,.ptr 3 0),(4,.ptr 4 0),(5,.ptr 5 0),(6,iV (((0:Nat):Int)))],[(3,.box [bX cl,llv lems,zL em,mlv pf]),(4,.box [iV 0,.nil,.nil,.nil,.nil,.nil,.nil,.ff,.nil,.nil,.nil,.nil]),(5,.box [iV n,alv us,alv os,rlv lo,rlv hi',alv rows,tsv ts,zL c.neg,nat c.num,nat c.den,.nil,llv lems])]⟩) (cs:=[iV n,alv us,alv os,rlv lo,rlv hi',alv rows,tsv ts,zL c.neg,nat c.num,nat c.den,.nil,llv lems]) 25 5 5 10 rfl rfl rfl) (wkZ))) ?_
 intro i hi;cbv;refine zF (λh=>?_) (λh=>?_)
 ·(have hlt:=jS h;obtain⟨x,hx⟩:=zS hlt;have hen:enc dc ((cl.take (i+1)).map xM)=enc dc ((cl.take i).map xM)++zW [dc (xM x)]:=by rw[tC,hx];simp[enc,zW]);have hln:(enc dc ((cl.take i).map xM)).length=i:=by rw[zA,y4,kX];omega
  have d1:=c1 x;have d2:zC 92 [ltv (x.1,!x.2)] (dv (xM x)):=c2 (x.1,!x.2);generalize xM x=d at *;clear c1 c2;cbv;refine zM 10 (by cbv) ?_;cbv;refine yL hx vH vG ?_;cbv;refine dA d1 ?_;cbv;refine dA d2 ?_;cbv;refine jU iK rfl rfl rfl (by rw[hln]) rfl ⟨by simp[zW,xT]⟩ (z8 oM (by rw[hln];simp[zW];exact om)) rfl ?_;cbv;exact⟨zD om om,i+1,(show i+1<=cl.length by omega),(show cl.length-(i+1)<cl.length-i by omega),.le okZ (by cbv;repeat' first|exact trivial|exact lR|exact zT rfl (by rw[hln];simp[zW])|exact zG (by rw[hen];rfl)|apply And.intro) rfl⟩
 ·(have hi2:i=cl.length:=dZ h hi;have hT:((enc dc ((cl.take i).map xM)).drop 0).take i=enc dc (cl.map xM):=by rw[hi2,v9,wZ,yU (by rw[zA,y4];omega)]);have hfr:0+i<=(enc dc ((cl.take i).map xM)).length:=by rw[zA,y4,kX];omega
  cbv;refine bD _ (.frz 25 rfl rfl (by cbv;repeat' first|exact trivial|exact zZ hfr|apply And.intro) (by cbv;repeat' first|exact trivial|exact zZ hfr|apply And.intro)) rfl ?_;cbv;exact⟨lR,lR,lR,lR,lR,lR,lR,lR,lR,lR,zR hT,lR,trivial⟩
def pL (q:Qry)(r:Rsn):w4 q r=(q.valid&&(clG none r.cl&&((dJ q r).scopeB&&(dJ q r).closes r.em r.pf))):=by
 unfold w4;by_cases h:bZ q r.cl=true;{rw[h,yW]}
 ·rw[Bool.not_eq_true] at h;have:(dJ q r).scopeB=false:=by
   unfold bZ at h;split at h
   ·(rename_i x hx;have hx1:=of_decide_eq_false h;have hm:=z3 hx;unfold Scp.scopeB;have ha:((dJ q r).path.all λd=>(dJ q r).q.valid&&d.fits (dJ q r).q)=false:=by refine List.all_eq_false.2 ⟨xM x,yZ.2 ⟨x,hm,rfl⟩,λg=>?_⟩;have hf:(xM x).fits q=true:=(QV.1 g).2;unfold Dec.fits at hf;rw[if_pos (by unfold xM;dsimp only;split <;> simp)] at hf;exact hx1 (of_decide_eq_true (QV.1 hf).1).2);rw[ha];simp
   {cases h}
  rw[h,this];simp
def Ln (q:Qry)(r:Rsn)(h:RsnOk q r)(hc:∀ (i:Nat) (m:Lem),r.lems[i]?=some m->SumOk ((dJ q r).pre i) m.pf)(hg:q.goal.ts.length<=2^34)(hv:q.goal.valid 9223372036854775807=q.goal.valid 4611686018427387904)(hok:SumOk (dJ q r) r.pf):zC 26 [qv q,rsv r] (zL (w4 q r)):=by
 refine sF Tryz.f26 ?_;have hcl:=h.cl;have c1:=iA q (h.sz.mono (by decide));have c2:=LE r.cl oM;have c3:=DW q r oM;have c4:=DZ (dJ q r) h.scp hc;have c5:=Nx (dJ q r) r.em r.pf h.scp hg hv hok;have hV:=pL q r;generalize w4 q r=v at *;generalize dJ q r=S at *;generalize S.scopeB=b4 at *;generalize S.closes r.em r.pf=b5 at *;generalize clG none r.cl=b2 at *;generalize q.valid=b1 at *;clear h hc hg hv hok;obtain⟨cl,lems,em,pf⟩:=r;obtain⟨⟨n,us,os⟩,⟨lo,hi',rows⟩,⟨ts,c⟩⟩:=q;dsimp only [sv] at *;cbv;refine cA c1 ?_;cbv;refine yB (λe1=>?_) (λe1=>?_)
 rotate_left
 ·cbv
  (refine rC ?_;cbv)
  exact zK (by grind)
 cbv;refine cA c2 ?_;cbv;refine zO (λe2=>?_) (λe2=>?_)
 rotate_left
 ·cbv
  (refine rC ?_;cbv)
  exact zK (by grind)
 cbv;refine cA c3 ?_;cbv;refine cA c4 ?_;cbv;refine yB (λe4=>?_) (λe4=>?_)
 ·cbv;refine cA c5 ?_;cbv
  (refine rC ?_;cbv)
  exact zX (by grind)
 ·cbv
  (refine rC ?_;cbv)
  exact zK (by grind)
def ZM (f:F) (x:Rat):F:=if x<0 then ⟨f.ts,f.c-x⟩ else f
def CB (f:F)(x:Rat):dT (fA f) x=fA (ZM f x):=by unfold dT ZM;split;{show (⟨_,zI ((zI f.c).q-x)⟩:A)=_;rw[z6];rfl};{rfl}
def Lc (raw:List UInt8):(clo raw).q=⟨(fdY raw 0).1.g.g,(fdY raw 0).1.r.g,fA (ZM (fdY raw 0).1.goal (oV (mE raw)))⟩:=by have h:=(lM raw).q;show (⟨(jJ raw).q.g,(jJ raw).q.r,dT (jJ raw).q.goal _⟩:Qry)=_;rw[h,<-CB];rfl
def nG (r:Rsn) (h:Nat) (x:R):Rsn :=
 if h%8=0 then ⟨r.cl.modify (h/8%r.cl.length) (λl=>(l.1,!l.2)),r.lems,r.em,r.pf⟩
 else if h%8=1 then ⟨r.cl.eraseIdx (h/8%r.cl.length),r.lems,r.em,r.pf⟩
 else if h%8=2 then ⟨r.cl,r.lems.modify (h/8%r.lems.length) (λm=>⟨m.u,m.up,x,m.pf⟩),r.em,r.pf⟩
 else if h%8=3 then ⟨r.cl,r.lems,r.em,r.pf.modify (h/8%r.pf.length) (λm=>⟨m.row,x⟩)⟩
 else if h%8=4 then ⟨r.cl,r.lems,!r.em,r.pf⟩
 else if h%8=5 then ⟨r.cl,r.lems,r.em,r.pf.eraseIdx (h/8%r.pf.length)⟩
 else if h%8=6 then ⟨r.cl++[(3+((h/8%3:Nat):Int),decide (h/8%2=1))],r.lems,r.em,r.pf⟩
 else r
def Um {α:Type}(p:α->List PV)(l:List α)(k:Nat):(enc p l).take k++(enc p l).drop (k+1)=enc p (l.eraseIdx k):=by rw[List.eraseIdx_eq_take_drop_succ];unfold enc;rw[gP,Zu,JD]
def QC {α:Type}{p:α->List PV}{l:List α}{k:Nat}{a:α}{f:α->α}(h:l[k]?=some a):(enc p l).set k (xT (p (f a)))=enc p (l.modify k f):=by rw[lI];congr 1;apply MJ;intro j;rw[List.getElem?_set,List.getElem?_modify];grind
def Pk {α:Type}(E:List α)(K:Nat){z:Int}(h:z=(K:Int)):E.drop (K+1)=(E.drop (0+(z+1).toNat)).take (((E.length:Nat):Int).toNat-(z+1).toNat):=by subst h;rw[show 0+((K:Int)+1).toNat=K+1 by omega,yU (by rw[bS];omega)]
def Em (r:Rsn)(h:Nat)(x:R)(hh:h<2^20)(h1:r.cl.length<=1000)(h2:r.lems.length<=1000)(h3:r.pf.length<=1000):zC 25 [rsv r,iV h,rv x] (rsv (nG r h x)):=by
 refine sF Tryz.f25 ?_;have hB:nG r h x=if h%8=0 then (⟨r.cl.modify (h/8%r.cl.length) (λl=>(l.1,!l.2)),r.lems,r.em,r.pf⟩:Rsn)
  else if h%8=1 then ⟨r.cl.eraseIdx (h/8%r.cl.length),r.lems,r.em,r.pf⟩
  else if h%8=2 then ⟨r.cl,r.lems.modify (h/8%r.lems.length) (λm=>⟨m.u,m.up,x,m.pf⟩),r.em,r.pf⟩
  else if h%8=3 then ⟨r.cl,r.lems,r.em,r.pf.modify (h/8%r.pf.length) (λm=>⟨m.row,x⟩)⟩
  else if h%8=4 then ⟨r.cl,r.lems,!r.em,r.pf⟩
  else if h%8=5 then ⟨r.cl,r.lems,r.em,r.pf.eraseIdx (h/8%r.pf.length)⟩
  else if h%8=6 then ⟨r.cl++[(3+((h/8%3:Nat):Int),decide (h/8%2=1))],r.lems,r.em,r.pf⟩
  else r:=rfl
 have hk8:irem (h:Int) 8=((h%8:Nat):Int):=wH (b:=8);have hq8:iquo (h:Int) 8=((h/8:Nat):Int):=m8 (b:=8);generalize nG r h x=B at *;obtain⟨A,hA⟩:=ex (h/8);obtain⟨E8,hE8⟩:=ex (h%8);have hA2:A<2^20:=by omega
 rw[hA] at hB hq8;rw[hE8] at hB hk8;obtain⟨cl,L,em,pf⟩:=r;dsimp only at *;cbv;refine⟨wG (by decide),?_⟩;have hnx:nx .i64 (A:Int)=(A:Int):=mV oM oM;simp only[hq8,hnx];refine BX 16 [(3,19),(7,23),(13,29),(14,30),(15,8)] (.trans (.fresh 19 2 rfl) (.trans (.fresh 23 6 rfl) (.trans (.fresh 29 7 rfl) (.trans (.fresh 30 1 rfl) (.fresh 8 1 rfl))))) (by cbv) (by cbv) ?_;cbv;refine WB H6 rfl (xE vG _) (z8 (by exact uG _) (by simp only[zA];exact om)) ?_;cbv;refine WB gF rfl (xE y7 _) (z8 (by exact uG _) (by simp only[zA];exact om)) ?_;cbv;refine WB kK rfl (xE xS _) (z8 (by exact uG _) (by simp only[zA];exact om)) ?_;cbv;refine⟨wG (by decide),?_⟩;simp only[hk8];have hcl:(enc ltc cl).length=cl.length:=zA _ _;have hLl:(enc lc L).length=L.length:=zA _ _;have hpl:(enc mc pf).length=pf.length:=zA _ _;refine kU (σ:=Rsn) (λs=>⟨[(6,.ptr 6 0),(8,.ptr 8 0)],[(6,.box [.nil,.nil,.ff,.nil]),(8,.box [yX 19 2 s.cl.length,yX 23 6 s.lems.length,zL s.em,yX 29 7 s.pf.length]),(19,xF 2 (enc ltc s.cl)),(23,xF 6 (enc lc s.lems)),(29,xF 7 (enc mc s.pf))]⟩) (λs=>s=B) (λe0=>?_) (λe0=>?_) (λs hs=>?_)
 ·cbv;refine zF (λe=>?_) (λe=>?_)
  ·(have h0:0<cl.length:=by rw[hcl] at e;exact om);obtain⟨K,hK,hKl,hKA⟩:∃ K:Nat,irem (A:Int) ((enc ltc cl).length:Int)=(K:Int)/\K<cl.length/\A%cl.length=K:=⟨A%cl.length,by rw[hcl,wH],vK _ h0,rfl⟩
   (obtain⟨t,ht⟩:=zS hKl;cbv;refine zM 14 (by cbv) ?_;cbv;have hix:0+(irem (A:Int) ((enc ltc cl).length:Int)).toNat=K:=by rw[hK];exact om);refine⟨wG (by rw[zA];exact om),wG (by rw[zA];exact om),xI (by grind) (by grind),?_⟩
   refine kQ (l:=cl) K hix hKl vH vG (λu hu=>?_);obtain rfl:=kF (ht.symm.trans hu);cbv;refine⟨xI (by grind) (by grind),?_⟩;refine kQ (l:=cl) K hix hKl vH vG (λu hu=>?_);obtain rfl:=kF (ht.symm.trans hu);cbv;exact⟨⟨cl.modify K (λl:xH=>(l.1,!l.2)),L,em,pf⟩,(by rw[hB,if_pos om,hKA]),.trans (.sel _ [6,8] [6,8,19,23,29] rfl) (.le (by cbv;repeat' first|exact trivial|exact lR|apply And.intro) (by cbv;repeat' first|exact trivial|exact lR|exact zG rfl|exact zG (by rw[hix];exact QC (f:=(λl:xH=>(l.1,!l.2))) ht)|exact zT rfl rfl|exact yY rfl|exact zT rfl (by simp[zA])|apply And.intro) rfl)⟩
  {have h0:cl=[]:=kD (by rw[hcl] at e;exact om);subst h0;cbv;exact⟨⟨[],L,em,pf⟩,(by rw[hB,if_pos om];first|rfl|simp),.trans (.sel _ [6,8] [6,8,19,23,29] rfl) (.le (by cbv;repeat' first|exact trivial|exact lR|apply And.intro) (by cbv;repeat' first|exact trivial|exact lR|exact zG rfl|exact zG (rfl)|exact zT rfl rfl|exact yY rfl|exact zT rfl (by grind [zA])|apply And.intro) rfl)⟩}
 ·cbv;refine zF (λe1=>?_) (λe1=>?_)
  ·cbv;refine zF (λe=>?_) (λe=>?_)
   ·(have h0:0<cl.length:=by rw[hcl] at e;exact om);obtain⟨K,hK,hKl,hKA⟩:∃ K:Nat,irem (A:Int) ((enc ltc cl).length:Int)=(K:Int)/\K<cl.length/\A%cl.length=K:=⟨A%cl.length,by rw[hcl,wH],vK _ h0,rfl⟩
    (obtain⟨t,ht⟩:=zS hKl;cbv;refine zM 13 (by cbv) ?_;cbv;refine⟨wG om,vF om om om,⟨.inl ⟨.inr rfl,wG om,zD om om,vF om om om,?_⟩⟩⟩;have hE:(enc ltc cl).take ((irem (A:Int) ((enc ltc cl).length:Int)).toNat-(0:Int).toNat)++(enc ltc cl).drop (K+1)=enc ltc (cl.eraseIdx K):=by rw[hK];exact Um ltc cl K);have hEl:(cl.eraseIdx K).length=cl.length-1:=by simp[List.length_eraseIdx,hKl]
    rcases kV (K+1) cl.length with g|g;{refine JW om ?_;refine Y7 (xs:=λ_=>(enc ltc cl).drop (K+1)) H6 rfl rfl rfl (by rw[hK];exact om) (.inr ⟨_,_,rfl,by rw[hK];exact om,Pk _ _ hK⟩) ⟨λx hx=>(xE vG cl).h x (Uu hx)⟩ (z8 (by exact uG _) (by simp only[bS,dO];exact om)) rfl ?_;cbv;exact⟨⟨cl.eraseIdx K,L,em,pf⟩,(by rw[hB,if_neg om,if_pos om,hKA]),.trans (.sel _ [6,8] [6,8,19,23,29] rfl) (.le (by cbv;repeat' first|exact trivial|exact lR|apply And.intro) (by cbv;repeat' first|exact trivial|exact lR|exact zG rfl|exact zG (hE)|exact zT rfl rfl|exact yY rfl|exact zT rfl (by first|(simp only[zA];done)|(dsimp only;rw[hK,hEl];simp only[bS,zA,dO];exact om))|apply And.intro) rfl)⟩};{refine⟨.inr ⟨om,?_⟩⟩;refine Y7 (xs:=λ_=>[]) H6 rfl rfl rfl (by rw[hK];exact om) (.inl ⟨rfl,rfl⟩) ⟨λx hx=>absurd hx (by simp)⟩ (z8 (by exact uG _) (by simp only[bS,dO];exact om)) rfl ?_;rw[show (enc ltc cl).drop (K+1)=[] from List.drop_eq_nil_of_le (by rw[hcl];omega)] at hE;cbv;exact⟨⟨cl.eraseIdx K,L,em,pf⟩,(by rw[hB,if_neg om,if_pos om,hKA]),.trans (.sel _ [6,8] [6,8,19,23,29] rfl) (.le (by cbv;repeat' first|exact trivial|exact lR|apply And.intro) (by cbv;repeat' first|exact trivial|exact lR|exact zG rfl|exact zG (hE)|exact zT rfl rfl|exact yY rfl|exact zT rfl (by first|(simp only[zA];done)|(dsimp only;rw[hK,hEl];simp only[bS,zA,dO];exact om))|apply And.intro) rfl)⟩}
   {have h0:cl=[]:=kD (by rw[hcl] at e;exact om);subst h0;cbv;exact⟨⟨[],L,em,pf⟩,(by rw[hB,if_neg om,if_pos om];first|rfl|simp),.trans (.sel _ [6,8] [6,8,19,23,29] rfl) (.le (by cbv;repeat' first|exact trivial|exact lR|apply And.intro) (by cbv;repeat' first|exact trivial|exact lR|exact zG rfl|exact zG (rfl)|exact zT rfl rfl|exact yY rfl|exact zT rfl (by grind [zA])|apply And.intro) rfl)⟩}
  cbv;refine zF (λe2=>?_) (λe2=>?_)
  ·cbv;refine zF (λe=>?_) (λe=>?_)
   ·(have h0:0<L.length:=by rw[hLl] at e;exact om);obtain⟨K,hK,hKl,hKA⟩:∃ K:Nat,irem (A:Int) ((enc lc L).length:Int)=(K:Int)/\K<L.length/\A%L.length=K:=⟨A%L.length,by rw[hLl,wH],vK _ h0,rfl⟩
    (obtain⟨t,ht⟩:=zS hKl;cbv;refine zM 6 (by cbv) ?_;cbv;have hix:0+(irem (A:Int) ((enc lc L).length:Int)).toNat=K:=by rw[hK];exact om);refine⟨wG (by rw[zA];exact om),xI (by grind) (by grind),?_⟩
    refine kQ (l:=L) K hix hKl xB y7 (λu hu=>?_);obtain rfl:=kF (ht.symm.trans hu);cbv;exact⟨⟨cl,L.modify K (λm:Lem=>⟨m.u,m.up,x,m.pf⟩),em,pf⟩,(by rw[hB,if_neg om,if_neg om,if_pos om,hKA]),.trans (.sel _ [6,8] [6,8,19,23,29] rfl) (.le (by cbv;repeat' first|exact trivial|exact lR|apply And.intro) (by cbv;repeat' first|exact trivial|exact lR|exact zG rfl|exact zG (by rw[hix];exact QC (f:=(λm:Lem=>⟨m.u,m.up,x,m.pf⟩)) ht)|exact zT rfl rfl|exact yY rfl|exact zT rfl (by simp[zA])|apply And.intro) rfl)⟩
   {have h0:L=[]:=kD (by rw[hLl] at e;exact om);subst h0;cbv;exact⟨⟨cl,[],em,pf⟩,(by rw[hB,if_neg om,if_neg om,if_pos om];first|rfl|simp),.trans (.sel _ [6,8] [6,8,19,23,29] rfl) (.le (by cbv;repeat' first|exact trivial|exact lR|apply And.intro) (by cbv;repeat' first|exact trivial|exact lR|exact zG rfl|exact zG (rfl)|exact zT rfl rfl|exact yY rfl|exact zT rfl (by grind [zA])|apply And.intro) rfl)⟩}
  cbv;refine zF (λe3=>?_) (λe3=>?_)
  ·cbv;refine zF (λe=>?_) (λe=>?_)
   ·(have h0:0<pf.length:=by rw[hpl] at e;exact om);obtain⟨K,hK,hKl,hKA⟩:∃ K:Nat,irem (A:Int) ((enc mc pf).length:Int)=(K:Int)/\K<pf.length/\A%pf.length=K:=⟨A%pf.length,by rw[hpl,wH],vK _ h0,rfl⟩
    (obtain⟨t,ht⟩:=zS hKl;cbv;refine zM 6 (by cbv) ?_;cbv;have hix:0+(irem (A:Int) ((enc mc pf).length:Int)).toNat=K:=by rw[hK];exact om);refine⟨wG (by rw[zA];exact om),xI (by grind) (by grind),?_⟩
    refine kQ (l:=pf) K hix hKl vA xS (λu hu=>?_);obtain rfl:=kF (ht.symm.trans hu);cbv;exact⟨⟨cl,L,em,pf.modify K (λm:Mult=>⟨m.row,x⟩)⟩,(by rw[hB,if_neg om,if_neg om,if_neg om,if_pos om,hKA]),.trans (.sel _ [6,8] [6,8,19,23,29] rfl) (.le (by cbv;repeat' first|exact trivial|exact lR|apply And.intro) (by cbv;repeat' first|exact trivial|exact lR|exact zG rfl|exact zG (by rw[hix];exact QC (f:=(λm:Mult=>⟨m.row,x⟩)) ht)|exact zT rfl rfl|exact yY rfl|exact zT rfl (by simp[zA])|apply And.intro) rfl)⟩
   {have h0:pf=[]:=kD (by rw[hpl] at e;exact om);subst h0;cbv;exact⟨⟨cl,L,em,[]⟩,(by rw[hB,if_neg om,if_neg om,if_neg om,if_pos om];first|rfl|simp),.trans (.sel _ [6,8] [6,8,19,23,29] rfl) (.le (by cbv;repeat' first|exact trivial|exact lR|apply And.intro) (by cbv;repeat' first|exact trivial|exact lR|exact zG rfl|exact zG (rfl)|exact zT rfl rfl|exact yY rfl|exact zT rfl (by grind [zA])|apply And.intro) rfl)⟩}
  cbv;refine zF (λe4=>?_) (λe4=>?_);{cbv;exact⟨⟨cl,L,!em,pf⟩,(by rw[hB,if_neg om,if_neg om,if_neg om,if_neg om,if_pos om]),.trans (.sel _ [6,8] [6,8,19,23,29] rfl) (.le (by cbv;repeat' first|exact trivial|exact lR|apply And.intro) (by cbv;repeat' first|exact trivial|exact lR|exact zG rfl|exact zG (rfl)|exact zT rfl rfl|exact yY rfl|exact zT rfl (by grind [zA])|apply And.intro) rfl)⟩};cbv;refine zF (λe5=>?_) (λe5=>?_)
  ·cbv;refine zF (λe=>?_) (λe=>?_)
   ·(have h0:0<pf.length:=by rw[hpl] at e;exact om);obtain⟨K,hK,hKl,hKA⟩:∃ K:Nat,irem (A:Int) ((enc mc pf).length:Int)=(K:Int)/\K<pf.length/\A%pf.length=K:=⟨A%pf.length,by rw[hpl,wH],vK _ h0,rfl⟩
    (obtain⟨t,ht⟩:=zS hKl;cbv;refine zM 13 (by cbv) ?_;cbv;refine⟨wG om,vF om om om,⟨.inl ⟨.inr rfl,wG om,zD om om,vF om om om,?_⟩⟩⟩;have hE:(enc mc pf).take ((irem (A:Int) ((enc mc pf).length:Int)).toNat-(0:Int).toNat)++(enc mc pf).drop (K+1)=enc mc (pf.eraseIdx K):=by rw[hK];exact Um mc pf K);have hEl:(pf.eraseIdx K).length=pf.length-1:=by simp[List.length_eraseIdx,hKl]
    rcases kV (K+1) pf.length with g|g;{refine JW om ?_;refine Y7 (xs:=λ_=>(enc mc pf).drop (K+1)) kK rfl rfl rfl (by rw[hK];exact om) (.inr ⟨_,_,rfl,by rw[hK];exact om,Pk _ _ hK⟩) ⟨λx hx=>(xE xS pf).h x (Uu hx)⟩ (z8 (by exact uG _) (by simp only[bS,dO];exact om)) rfl ?_;cbv;exact⟨⟨cl,L,em,pf.eraseIdx K⟩,(by rw[hB,if_neg om,if_neg om,if_neg om,if_neg om,if_neg om,if_pos om,hKA]),.trans (.sel _ [6,8] [6,8,19,23,29] rfl) (.le (by cbv;repeat' first|exact trivial|exact lR|apply And.intro) (by cbv;repeat' first|exact trivial|exact lR|exact zG rfl|exact zG (hE)|exact zT rfl rfl|exact yY rfl|exact zT rfl (by first|(simp only[zA];done)|(dsimp only;rw[hK,hEl];simp only[bS,zA,dO];exact om))|apply And.intro) rfl)⟩};{refine⟨.inr ⟨om,?_⟩⟩;refine Y7 (xs:=λ_=>[]) kK rfl rfl rfl (by rw[hK];exact om) (.inl ⟨rfl,rfl⟩) ⟨λx hx=>absurd hx (by simp)⟩ (z8 (by exact uG _) (by simp only[bS,dO];exact om)) rfl ?_;rw[show (enc mc pf).drop (K+1)=[] from List.drop_eq_nil_of_le (by rw[hpl];omega)] at hE;cbv;exact⟨⟨cl,L,em,pf.eraseIdx K⟩,(by rw[hB,if_neg om,if_neg om,if_neg om,if_neg om,if_neg om,if_pos om,hKA]),.trans (.sel _ [6,8] [6,8,19,23,29] rfl) (.le (by cbv;repeat' first|exact trivial|exact lR|apply And.intro) (by cbv;repeat' first|exact trivial|exact lR|exact zG rfl|exact zG (hE)|exact zT rfl rfl|exact yY rfl|exact zT rfl (by first|(simp only[zA];done)|(dsimp only;rw[hK,hEl];simp only[bS,zA,dO];exact om))|apply And.intro) rfl)⟩}
   {have h0:pf=[]:=kD (by rw[hpl] at e;exact om);subst h0;cbv;exact⟨⟨cl,L,em,[]⟩,(by rw[hB,if_neg om,if_neg om,if_neg om,if_neg om,if_neg om,if_pos om];first|rfl|simp),.trans (.sel _ [6,8] [6,8,19,23,29] rfl) (.le (by cbv;repeat' first|exact trivial|exact lR|apply And.intro) (by cbv;repeat' first|exact trivial|exact lR|exact zG rfl|exact zG (rfl)|exact zT rfl rfl|exact yY rfl|exact zT rfl (by grind [zA])|apply And.intro) rfl)⟩}
  cbv;refine zF (λe6=>?_) (λe6=>?_)
  ·(cbv;have h3:irem (A:Int) 3=((A%3:Nat):Int):=wH (b:=3);have h2':irem (A:Int) 2=((A%2:Nat):Int):=wH (b:=2);have h3l:=vK A (show 0<3 by omega);simp only[h3,h2'];refine⟨wG (by decide),zD om om,wG (by decide),?_⟩;have hd:decide (((A%2:Nat):Int)=1)=decide (A%2=1):=by rw[decide_eq_decide];omega);refine jU (xs:=λ_=>enc ltc [(3+((A%3:Nat):Int),decide (((A%2:Nat):Int)=1))]) H6 rfl rfl rfl rfl rfl (xE vG _) (z8 (by exact uG _) (by simp only[zA,Ay];exact om)) rfl ?_
   cbv;exact⟨⟨cl++[(3+((A%3:Nat):Int),decide (((A%2:Nat):Int)=1))],L,em,pf⟩,(by rw[hB,if_neg om,if_neg om,if_neg om,if_neg om,if_neg om,if_neg om,if_pos om,hd]),.trans (.sel _ [6,8] [6,8,19,23,29] rfl) (.le (by cbv;repeat' first|exact trivial|exact lR|apply And.intro) (by cbv;repeat' first|exact trivial|exact lR|exact zG rfl|exact zG (by unfold enc;rw[gP])|exact zT rfl rfl|exact yY rfl|exact zT rfl (by simp[zA])|apply And.intro) rfl)⟩
  cbv;exact⟨⟨cl,L,em,pf⟩,(by rw[hB,if_neg om,if_neg om,if_neg om,if_neg om,if_neg om,if_neg om,if_neg om]),.trans (.sel _ [6,8] [6,8,19,23,29] rfl) (.le (by cbv;repeat' first|exact trivial|exact lR|apply And.intro) (by cbv;repeat' first|exact trivial|exact lR|exact zG rfl|exact zG (rfl)|exact zT rfl rfl|exact yY rfl|exact zT rfl (by grind [zA])|apply And.intro) rfl)⟩
 {cbv;subst hs;refine bD _ (.trans (.sel _ [6] [6,19,23,29] rfl) (.trans (.frz 19 rfl rfl (by cbv;repeat' first|exact trivial|exact zZ (by simp[zA])|apply And.intro) (by cbv;repeat' first|exact trivial|exact zZ (by simp[zA])|apply And.intro)) (.trans (.frz 23 rfl rfl (by cbv;repeat' first|exact trivial|exact zZ (by simp[zA])|apply And.intro) (by cbv;repeat' first|exact trivial|exact zZ (by simp[zA])|apply And.intro)) (.frz 29 rfl rfl (by cbv;repeat' first|exact trivial|exact zZ (by simp[zA])|apply And.intro) (by cbv;repeat' first|exact trivial|exact zZ (by simp[zA])|apply And.intro))))) rfl ?_;cbv;exact⟨zR (Zk ltc _),zR (Zk lc _),lR,zR (Zk mc _),trivial⟩}
structure Rs16 (q:Qry) (r:Rsn):Prop where
 q:q.sz (2^16)
 cl:r.cl.length<=900
 n:r.lems.length<=1000
 lz:∀ m,m∈r.lems->m.v.sz (2^16)/\Msz (2^16) m.pf/\m.pf.length<=20
 pz:Msz (2^16) r.pf
 pn:r.pf.length<=20
theorem Rs16.ok {q:Qry}{r:Rsn}(h:Rs16 q r):RsnOk q r :=
 ⟨h.q.mono (by decide),by have:=h.cl;omega,⟨by have:=h.n;omega,λm hm=>(h.lz m hm).1.mono (by decide),λm hm=>(h.lz m hm).2.1.mono (by decide)⟩,λm hm=>by have:=(h.lz m hm).2.2;omega,h.pz.mono (by decide),by have:=h.pn;omega⟩
theorem Rs16.scp {q:Qry}{r:Rsn}(h:Rs16 q r):(dJ q r).sz (2^16):=⟨h.q,⟨by show (r.cl.map xM).length<_;rw[y4];have:=h.cl;omega,λd hd=>by obtain⟨x,_,rfl⟩:=yZ.1 hd;exact⟨xA _,xA _⟩⟩,⟨by have:=h.n;show r.lems.length<_;omega,λm hm=>(h.lz m hm).1,λm hm=>(h.lz m hm).2.1⟩⟩
theorem Rs16.vdr {q:Qry}{r:Rsn}(h:Rs16 q r)(hg:q.goal.ts.length<=2^34)(hv:q.goal.valid 9223372036854775807=q.goal.valid 4611686018427387904):zC 26 [qv q,rsv r] (zL (w4 q r)) :=
 Ln q r h.ok (λi m hm=>nR (h.scp.pre i) (h.lz m (z3 hm)).2.1 (h.lz m (z3 hm)).2.2) hg hv (nR h.scp h.pz h.pn)
def Wa {α:Type}{f:α->α}{l:List α}{k:Nat}{m:α}(h:m∈l.modify k f):m∈l\/∃ y,y∈l/\m=f y:=by
 obtain⟨j,hj⟩:=cR h;rw[List.getElem?_modify] at hj;cases hx:l[j]? with
 |none=>rw[hx] at hj;simp at hj| some y =>
  rw[hx] at hj;have:=z3 hx;simp only[Option.map_eq_map,JK,mF] at hj;split at hj;{exact .inr ⟨y,this,hj.symm⟩};{exact .inl (hj ▸ this)}
theorem Rs16.bend {q:Qry}{r:Rsn}(h:Rs16 q r)(hc:r.cl.length<900){x:R}(hx:x.sz (2^16))(k:Nat):Rs16 q (nG r k x):=by unfold nG;split;{exact⟨h.q,by simpa only [QW] using h.cl,h.n,h.lz,h.pz,h.pn⟩};split;{exact⟨h.q,by have:=List.length_eraseIdx_le r.cl (k/8%r.cl.length);have:=h.cl;show (r.cl.eraseIdx _).length<=_;omega,h.n,h.lz,h.pz,h.pn⟩};split;{refine⟨h.q,h.cl,by simpa only [QW] using h.n,λm hm=>?_,h.pz,h.pn⟩;rcases Wa hm with g|⟨y,g,rfl⟩;{exact h.lz m g};{exact⟨hx,(h.lz y g).2⟩}};split;{refine⟨h.q,h.cl,h.n,h.lz,⟨by simpa only [QW] using h.pz.len,λm hm=>?_⟩,by simpa only [QW] using h.pn⟩;rcases Wa hm with g|⟨y,g,rfl⟩;{exact h.pz.sz m g};{exact hx}};split;{exact⟨h.q,h.cl,h.n,h.lz,h.pz,h.pn⟩};split;{have e:=List.length_eraseIdx_le r.pf (k/8%r.pf.length);exact⟨h.q,h.cl,h.n,h.lz,⟨xP e h.pz.len,λm hm=>h.pz.sz m (List.mem_of_mem_eraseIdx hm)⟩,vL e h.pn⟩};split;{exact⟨h.q,by show (r.cl++[_]).length<=_;rw[gD];show r.cl.length+1<=_;omega,h.n,h.lz,h.pz,h.pn⟩};{exact h}
theorem Lft.rs16 {s:Scp}{l:List Mult}(h:Lft s l)(em:Bool):Rs16 s.q (vW s em l).1/\(vW s em l).1.cl.length<900:=by
 have z:=h.w.sz16 (by decide) (by decide);have h0:Rs16 s.q R00n/\R00n.cl.length<900:=⟨⟨z.q,by decide,by decide,λm hm=>absurd hm (by simp[R00n]),⟨by decide,λm hm=>absurd hm (by simp[R00n])⟩,by decide⟩,by decide⟩;obtain⟨m1,m2⟩:=h.marks;have hp:=h.w.pl;have hl:=h.w.len;have key:∀ {k:Int},k∈vM (s.marks l).2->∃ x,x∈s.lems/\s.lemA k=x:=λ{k} hk=>by obtain⟨k0,k1⟩:=Qn hk;obtain⟨x,hx⟩:=zS (l:=s.lems) (i:=k.toNat) oM;exact⟨x,z3 hx,by unfold Scp.lemA;rw[hx];rfl⟩
 unfold vW;split;{exact h0}
 ·split;{exact h0}
  ·split;{exact h0}
   ·rename_i ls hls;split;{exact h0}
    ·(rename_i c hc;have hL:∀ m,m∈((vM (s.marks l).2).map s.lemA).map (rnL (vM (s.marks l).2))->∃ x,x∈s.lems/\m=rnL (vM (s.marks l).2) x:=λm hm=>by obtain⟨y,hy,rfl⟩:=yZ.1 hm;obtain⟨k,hk,rfl⟩:=yZ.1 hy;obtain⟨x,hx,e⟩:=key hk;exact⟨x,hx,by rw[e]⟩);have e1:ls.length=(vM (s.marks l).1).length:=by have:=congrArg List.length (Qi hls).2;grind
     have e2:c.length=ls.length:=by unfold mkP at hc;split at hc;{cases hc;rw[Ax,Wm]};grind
     (have e3:=lG (s.marks l).1 (s.marks l).1.length;have e4:=lG (s.marks l).2 (s.marks l).2.length;have e5:c.length<900:=by unfold vM at e1;omega);refine⟨⟨z.q,pK e5,?_,λm hm=>?_,GG h.z _,?_⟩,e5⟩
     {simp only[y4];show (vM (s.marks l).2).length<=_;unfold vM;omega};{obtain⟨x,hx,rfl⟩:=hL m hm;exact⟨z.lems.sz x hx,GG (z.lems.pf x hx) _,by show (x.pf.map _).length<=_;rw[y4];exact (h.w.l x hx).2.2⟩};{show (l.map _).length<=_;rw[y4];exact h.n}
def q00:Qry:=⟨⟨0,[],[]⟩,⟨[],[],[]⟩,⟨[],R0⟩⟩
def TM:q00.sz (2^20):=⟨⟨⟨by decide,λm hm=>absurd hm (by simp[q00])⟩,⟨by decide,λm hm=>absurd hm (by simp[q00])⟩⟩,⟨⟨by decide,λm hm=>absurd hm (by simp[q00])⟩,⟨by decide,λm hm=>absurd hm (by simp[q00])⟩,⟨by decide,λm hm=>absurd hm (by simp[q00])⟩⟩,⟨⟨by decide,λm hm=>absurd hm (by simp[q00])⟩,⟨by decide,by decide⟩⟩⟩
def Tm (raw:List UInt8)(w:UInt8)(x:R)(h1:raw.length<=9223372036854775807):zC 6 [u8v raw,.int .u8 (λ_=>(w.toNat:Int)),rv x] (zL true):=by
 refine sF Tryz.f6 ?_;have ca:=R9;have ccl:raw.length<2^38->zC 11 [u8v raw] (.tup [sv (clo raw),mlv (mR (aA raw))]):=λh=>Nm raw h;have ft:=QI raw;have cl:=Tl (clo raw) false (mR (aA raw)) (ft.fit (B9 raw)).lrn;have hval:=Za ft.w ft.r (em:=false);obtain⟨rz,rl⟩:=ft.rs16 false;have lr:=ft.lnr;have hw:w.toNat<256:=w.toNat_lt;have hnx:nx .i64 (w.toNat:Int)=(w.toNat:Int):=mV oM oM;have cv:=DT (clo raw).q _ rz.ok;have cv0:=DT q00 _ { rz.ok with sz:=TM };rw[show w4 q00 (vW (clo raw) false (mR (aA raw))).1=false by rw[pL,show q00.valid=false by decide];rfl] at cv0;have cb:=Em (vW (clo raw) false (mR (aA raw))).1 w.toNat x oM oM rz.n (by have:=rz.pn;omega);have cp:x.num.length<=4->x.den.length<=4->zC 24 [qv (clo raw).q,rsv (nG (vW (clo raw) false (mR (aA raw))).1 w.toNat x)] (zL (w4 (clo raw).q (nG (vW (clo raw) false (mR (aA raw))).1 w.toNat x))):=λg1 g2=>DT _ _ (rz.bend rl ⟨by omega,by omega⟩ _).ok;have cr:x.num.length<=4->x.den.length<=4->zC 26 [qv (clo raw).q,rsv (nG (vW (clo raw) false (mR (aA raw))).1 w.toNat x)] (zL (w4 (clo raw).q (nG (vW (clo raw) false (mR (aA raw))).1 w.toNat x))):=λg1 g2=>(rz.bend rl ⟨by omega,by omega⟩ _).vdr lr.hg lr.hv;clear ft lr rz rl;generalize w4 (clo raw).q (nG (vW (clo raw) false (mR (aA raw))).1 w.toNat x)=vb at *;generalize nG (vW (clo raw) false (mR (aA raw))).1 w.toNat x=B at *;generalize w4 (clo raw).q (vW (clo raw) false (mR (aA raw))).1=va at *;generalize vW (clo raw) false (mR (aA raw))=RE at *;generalize clo raw=S at *;generalize mR (aA raw)=CL at *;obtain⟨R',E⟩:=RE;obtain⟨rc,rlm,re,rp⟩:=R';obtain⟨bc,blm,be,bp⟩:=B;obtain⟨⟨⟨n,us,os⟩,⟨lo,hi',rows⟩,⟨ts,c⟩⟩,path,LS⟩:=S;dsimp only [sv] at *;cbv;refine cA ca ?_;cbv;refine dE rfl ?_;cbv;refine zQ (λe1=>?_) (λe1=>?_);{cbv;exact rA};have ccl':=ccl (by rw[zA] at e1;exact om);clear ccl;cbv;refine zQ (λe2=>?_) (λe2=>?_);{cbv;exact rA};cbv;refine zF (λe3=>?_) (λe3=>?_);{cbv;exact rA};have g2:x.num.length<=4:=by (try dsimp only [zV] at *);simp only[zH] at e2;omega
 have g3:x.den.length<=4:=by (try dsimp only [zV] at *);simp only[zH] at e3;omega
 replace cp:=cp g2 g3;replace cr:=cr g2 g3;cbv;refine cA ccl' ?_;cbv;refine cA cl ?_;clear ca ccl' cl;cbv;refine zF (λe4=>?_) (λe4=>?_)
 rotate_left
 {cbv;exact rA};have e5:va=true:=hval (by exact om);subst e5;cbv;refine cA cv ?_;cbv;refine rZ rfl ?_;cbv;refine cA cv0 ?_;cbv;refine WJ rfl ?_;cbv;refine yJ rfl (by exact⟨okA,zB hnx,okA,trivial⟩) cb rfl ?_;cbv;refine zM 10 (by cbv) ?_;cbv;refine dA cp ?_;cbv;refine dA cr ?_;cbv
 (refine rC ?_;cbv)
 exact zX (by simp)
def qQ (t:Scp) (r:Rsn):Rsn×Int :=
 if w4 t.q r=false then (R00n,1)
 else if (r.cl.any λc=>decide (t.fst (xM c).k c.1<0))=true then (R00n,9)
 else (⟨[],r.lems.map (shL t.lems.length),r.em,r.pf.map (shM t.lems.length)⟩,0)
abbrev SW (r:Rsn):PV:=.agg [llv r.lems,iV 0,iV 0,.ff,.nil,.nil,.nil,zL r.em,mlv r.pf]
def LD (t:Scp)(hl:t.lems.length<2^38):Nbr 102 (match sv t with|.agg cs=>cs|_=>[]) (λn=>n+t.lems.length):=by
 refine⟨λn h1 h2=>?_,λn h1 h2=>by omega⟩;refine sF Tryz.f102 ?_;obtain⟨⟨⟨m,us,os⟩,⟨lo,hi',rows⟩,⟨ts,c⟩⟩,path,L⟩:=t;dsimp only [sv] at *;cbv;refine⟨zD (by rw[zA];exact om) (by rw[zA];exact om),?_⟩
 (refine rC ?_;cbv)
 exact zB (by rw[zA])
def Cm (d:Nat):rnQ (λn=>n+(d:Int))=shM d:=by funext m;obtain⟨⟨k,i,lo,hi'⟩,c⟩:=m;unfold rnQ shM shI rnG;dsimp only;grind
def SJ (d:Nat):YI (λn=>n+(d:Int))=shL d:=by funext m;unfold YI shL;rw[Cm]
def LC (t:Scp)(r:Rsn)(h:RsnOk t.q r)(ht:Psz t)(hl:t.lems.length<2^30)(hr:w4 t.q r=true->(∀ m,m∈r.pf->Rsm m.row)/\∀ m,m∈r.lems->m.pf.length<2^38/\∀ y,y∈m.pf->Rsm y.row):zC 38 [sv t,rsv r] (.tup [SW (qQ t r).1,iV ((qQ t r).2)]):=by
 refine sF Tryz.f38 ?_;have c1:=DT t.q r h;have hcl:=h.cl;have c2:=λl:xH=>To l;have c3:=λl:xH=>Nl l;have c4:=λk u=>Tp t k u ht;have nb:=LD t oM;have c5:=λg=>M7 nb r.lems h.lz.len (hr g).2;have c6:=λg=>Te nb r.pf h.pz.len (hr g).1;simp only[Cm,SJ] at c5 c6;have hR:qQ t r=if w4 t.q r=false then (R00n,1)
  else if (r.cl.any λc=>decide (t.fst (xM c).k c.1<0))=true then (R00n,9)
  else (⟨[],r.lems.map (shL t.lems.length),r.em,r.pf.map (shM t.lems.length)⟩,0):=rfl
 clear nb hr h ht;generalize qQ t r=RE at *;generalize w4 t.q r=b1 at *;generalize r.lems.map (shL t.lems.length)=L7 at *;generalize r.pf.map (shM t.lems.length)=l8 at *;generalize t.fst=F at *;obtain⟨R',E⟩:=RE;obtain⟨cl,lems,em,pf⟩:=r;obtain⟨⟨⟨n,us,os⟩,⟨lo,hi',rows⟩,⟨ts,c⟩⟩,path,L⟩:=t;dsimp only [sv] at *;cbv;refine cA c1 ?_;cbv;refine zO (λe=>?_) (λe=>?_)
 rotate_left
 {rw[if_pos e] at hR;cases hR;cbv;exact rA};rw[if_neg (by grind)] at hR;replace c5:=c5 e;replace c6:=c6 e;clear c1;cbv;refine z7 (σ:=Nat) (λi=>⟨[(2,.ptr 2 0),(3,.ptr 3 0),(4,.ptr 4 0),(17,bX cl),(18,iV cl.length),(19,iV i)],[(2,.box [iV n,alv us,alv os,rlv lo,rlv hi',alv rows,tsv ts,zL c.neg,nat c.num,nat c.den,dlv path,llv L]),(3,.box [bX cl,llv lems,zL em,mlv pf]),(4,.box [.nil,iV 0,iV 0,.ff,.nil,.nil,.nil,.ff,.nil])]⟩) (λi=>i<=cl.length/\∀ (j:Nat) x,j<i->cl[j]?=some x->¬F (xM x).k x.1<0) (λi=>cl.length-i) 0 ⟨xA _,λj x h=>absurd h (Nat.not_lt_zero _)⟩ (.le (by cbv;repeat' first|exact trivial|exact lR|exact zB (by (try dsimp only [zV] at *);rw[zA])|apply And.intro) okZ rfl) ?_;intro i hi;obtain⟨hi,hno⟩:=hi;cbv;refine zF (λh=>?_) (λh=>?_)
 ·(have hlt:i<cl.length:=by exact om);obtain⟨⟨ci,cb⟩,hc⟩:=zS hlt
  (have k2:=c2 (ci,cb);have k3:=c3 (ci,!cb);have k4:=c4 (if (!cb)=true then 1 else 2) ci;have hk:(xM (ci,cb)).k=if (!cb)=true then 1 else 2:=rfl);dsimp only at k2 k3 k4
  generalize (if (!cb)=true then (1:Int) else 2)=kk at *;clear c2 c3 c4 c5 c6;cbv;refine yL hc vH vG ?_;cbv;refine cA k2 ?_;cbv;refine cA k3 ?_;cbv;refine cA k4 ?_;cbv;refine zF (λe2=>?_) (λe2=>?_);{rw[if_pos (eH.2 ⟨_,z3 hc,decide_eq_true (by rw[hk];exact e2)⟩)] at hR;cases hR;cbv;exact rA}
  ·cbv;exact⟨zD om om,i+1,⟨(show i+1<=cl.length by omega),λj x hj hjx=>by
    rcases HU (Aw hj) with g|g;{exact hno j x g hjx}
    ·rw[g,hc] at hjx;rw[<-kF hjx,hk];exact e2⟩,(show cl.length-(i+1)<cl.length-i by omega),wkZ⟩
 ·(have hE:i=cl.length:=by exact om);subst hE
  rw[if_neg (λq=>by obtain⟨x,hx,hx2⟩:=eH.1 q;obtain⟨j,hj⟩:=cR hx;exact hno j x (wE.1 hj).1 hj (of_decide_eq_true hx2))] at hR;cases hR;clear hno c2 c3 c4;cbv;refine BW 10 (.frz 2 rfl rfl (by cbv;repeat' first|exact trivial|apply And.intro) (by cbv;repeat' first|exact trivial|apply And.intro)) (by cbv) ?_;cbv;refine xW (by exact⟨lR,⟨rfl,lR,trivial⟩,trivial⟩) c5 rfl ?_;cbv;refine xW (by exact⟨lR,⟨rfl,lR,trivial⟩,trivial⟩) c6 rfl ?_;cbv;exact rA
end Go.Proofs.YtaeaffgjdcigoaaGreat
