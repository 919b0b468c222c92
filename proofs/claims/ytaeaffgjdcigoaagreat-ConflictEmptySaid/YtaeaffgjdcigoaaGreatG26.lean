/- A part of the proof: SpI, SpJ, SpK, SpL, SpM, SpN, SpO, SpP, SpQ, SpR, SpS, SpT, RtA, FdA, FdB, FdC. -/
import Derived.Test.YtaeaffgjdcigoaaGreatG25
import Derived.Test.YtaeaffgjdcigoaaGreatG21
import Derived.Test.YtaeaffgjdcigoaaGreatG22
set_option linter.all false
namespace Go.Proofs.YtaeaffgjdcigoaaGreat
open Go
set_option maxRecDepth 100000
set_option maxHeartbeats 4000000
def J1 {L:List Lem}{unit:Int}:∀ {r:List Lem} {n:Nat} {b:Nat×Nat},r=L.drop n->(b.1≠0->∃ m,L[b.1-1]?=some m/\m.u=unit/\m.up=false)/\(b.2≠0->∃ m,L[b.2-1]?=some m/\m.u=unit/\m.up=true) ->((bT L unit n r b).1≠0->∃ m,L[(bT L unit n r b).1-1]?=some m/\m.u=unit/\m.up=false)/\((bT L unit n r b).2≠0->∃ m,L[(bT L unit n r b).2-1]?=some m/\m.u=unit/\m.up=true)
 |[],n,b,_,hb=>hb| m::r,n,b,hr,hb=>by
  have hm:L[n]?=some m:=by
   (have:(L.drop n)[0]?=some m:=by grind);grind
  have hr':r=L.drop (n+1):=by
   (have:(L.drop n).drop 1=L.drop (n+1):=by simp_all);grind
  unfold bT;refine J1 hr' ?_;split
  ·rename_i hu;split;{grind}
   ·(rename_i hup;have hup':m.up=false:=by grind);split
    all_goals grind
  omega
def F6 (s:Scp)(unit:Int):((s.best unit).1≠0->∃ m,s.lems[(s.best unit).1-1]?=some m/\m.u=unit/\m.up=false)/\((s.best unit).2≠0->∃ m,s.lems[(s.best unit).2-1]?=some m/\m.u=unit/\m.up=true) :=
 J1 (by simp) ⟨λh=>absurd rfl h,λh=>absurd rfl h⟩
def Zf {s:Scp}{k:Nat}{unit:Int}{up:Bool}{m:Lem}(h0:k≠0)(hm:s.lems[k-1]?=some m)(hu:m.u=unit)(hp:m.up=up):s.lem k unit up=some (qT s.lems k):=by
 have hl:k-1<s.lems.length:=(xP.1 hm).1;have e:((k:Int)-1).toNat=k-1:=by omega
 rw[Wu (m:=m) oM oM (by grind),if_pos ⟨hu,hp⟩];grind [qT]
def cL {s:Scp}(hv:s.q.valid=true){k lo hi:Int}{i:Nat}{p:F}(hk:5<=k)(hk2:k<14)(hp:s.q.g.us[i]?=some (fA p)):s.fm ⟨k,i,lo,hi⟩=unF s ⟨k,i,lo,hi⟩ p (F.var (s.q.g.n+i)) (s.lem lo i false) (s.lem hi i true):=by have hl:i<s.q.g.us.length:=(xP.1 hp).1;unfold Scp.fm;rw[if_neg (by grind),if_neg (by grind)];unfold Scp.fUn;rw[if_pos ⟨by grind,by grind⟩];grind [qP]
def P7 {s:Scp}(hv:s.q.valid=true){i:Nat}{x:R}(hx:s.q.r.lo[i]?=some x):s.fm ⟨1,i,0,0⟩=some ((F.var i).sub (F.num x.q)):=by unfold Scp.fm;rw[if_neg (by grind),if_pos (by grind)];unfold Scp.fIn;rw[if_pos ⟨rfl,by grind⟩,if_pos rfl];grind
def P9 {s:Scp}(hv:s.q.valid=true){i:Nat}{x:R}(hx:s.q.r.hi[i]?=some x):s.fm ⟨2,i,0,0⟩=some ((F.num x.q).sub (F.var i)):=by unfold Scp.fm;rw[if_neg (by grind),if_pos (by grind)];unfold Scp.fIn;rw[if_pos ⟨rfl,by grind⟩,if_neg (by grind),if_pos rfl];grind
def dlt (v w:Int):Rat:=if v=w then 1 else 0
theorem eJ (v w:Int):co (F.var v).ts w=dlt v w:=by show (if v=w then 1 else 0)+(0:Rat)=_;grind [dlt]
theorem eM (q:Rat)(w:Int):co (F.num q).ts w=0:=rfl
theorem dD {s:Scp}{r:Row}{f:F}(h:s.fm r=some f):fmD s r=f:=by grind [fmD]
def Tj {s:Scp}(hv:s.q.valid=true){i:Nat}{p:F}(hp:s.q.g.us[i]?=some (fA p)){lo hi:Nat}{l u:Rat}(hl:s.lem lo i false=some l)(hu:s.lem hi i true=some u):AV s (upM i lo hi l u)/\(∀ t,t∈upM i lo hi l u->0<=t.2)/\∀ w,SC s w (upM i lo hi l u)=- dlt (s.q.g.n+i) w:=by
 have f12:s.fm ⟨12,i,0,hi⟩=some ((F.num u).sub p):=by rw[cL hv (by decide) (by decide) hp,hu];rfl
 unfold upM;split
 ·(rename_i h;have f10:s.fm ⟨10,i,0,hi⟩=some ((F.var (s.q.g.n+i)).scale (-1)):=by rw[cL hv (by decide) (by decide) hp,hu];show (if iD s ⟨10,i,0,hi⟩ u true=true then _ else none)=_;rw[if_pos (by grind [iD])]);refine⟨λt ht=>?_,λt ht=>?_,λw=>?_⟩
  all_goals grind [SC,dD,bG,eJ]
 ·rename_i h1;split
  ·(rename_i h;have f8:s.fm ⟨8,i,lo,0⟩=some (p.sub (F.var (s.q.g.n+i))):=by rw[cL hv (by decide) (by decide) hp,hl];show (if onB s ⟨8,i,lo,0⟩ l true=true then _ else none)=_;rw[if_pos (by grind [onB])]);refine⟨λt ht=>?_,λt ht=>?_,λw=>?_⟩
   all_goals grind [SC,dD,Q6,eJ,eM]
  ·(rename_i h2;have hu0:0<u:=by grind [cJ]);have hl0:l<0:=by grind [tF]
   have f13:s.fm ⟨13,i,lo,hi⟩=some (((p.sub (F.num l)).scale u).sub ((F.var (s.q.g.n+i)).scale (u-l))):=by rw[cL hv (by decide) (by decide) hp,hl,hu];show (if _/\_/\_/\_ then _ else none)=_;grind
   (have hpos:0<u-l:=by grind);have hinv:0<1/(u-l):=by rw[s8,Rat.one_mul];grind [Rat.inv_pos]
   (have hne:u-l≠0:=by grind);have hone:1/(u-l)*(u-l)=1:=by grind
   generalize 1/(u-l)=d at *;refine⟨λt ht=>?_,λt ht=>?_,λw=>?_⟩;{grind};{grind [Rat.le_of_lt,Rat.mul_pos]};grind [SC,dD,Q6,bG,eJ,eM]
def Df (q:Rat):0<=vP q:=by grind [vP]
def DK {s:Scp}{x:FQry}(hq:s.q=x.q)(hv:s.q.valid=true)(hx:x.small){v:Nat}(h:v<x.g.n+x.g.us.length):AV s (s.atLeastM v)/\(∀ t,t∈s.atLeastM v->0<=t.2)/\∀ w,SC s w (s.atLeastM v)=dlt v w:=by
 have hn:s.q.g.n=(x.g.n:Int):=by rw[hq];rfl
 unfold Scp.atLeastM;by_cases hlt:v<x.g.n
 ·rw[if_pos oM];obtain⟨y,hy⟩:∃ y,s.q.r.lo[v]?=some y:=zO (by rw[hq];show v<(x.r.bs.map _).length;rw[y8,hx.r.bs];exact hlt);have f1:=P7 hv hy;refine⟨λt ht=>?_,λt ht=>?_,λw=>?_⟩
  all_goals grind [SC,dD,Q6,eJ,eM]
 ·(rw[if_neg oM];have e:(v:Int)-s.q.g.n=((v-x.g.n:Nat):Int):=by omega);have hp:s.q.g.us[v-x.g.n]?=some (fA x.g.us[v-x.g.n]):=by rw[hq];show (x.g.us.map fA)[v-x.g.n]?=_;grind
  (have f5:s.fm ⟨5,((v-x.g.n:Nat):Int),0,0⟩=some (F.var (s.q.g.n+(v-x.g.n:Nat))):=by rw[cL hv (by decide) (by decide) hp];rfl);rw[e];refine⟨λt ht=>?_,λt ht=>?_,λw=>?_⟩
  all_goals grind [SC,dD,eJ]
theorem BM {s:Scp}{x:FQry}(hq:s.q=x.q)(hv:s.q.valid=true)(hx:x.small){v:Nat}(h:v<x.g.n+x.g.us.length){more:List (Row×Rat)}(hm:s.atMostM v=some more):AV s more/\(∀ t,t∈more->0<=t.2)/\∀ w,SC s w more=- dlt v w:=by
 have hn:s.q.g.n=(x.g.n:Int):=by rw[hq];rfl
 unfold Scp.atMostM at hm;by_cases hlt:v<x.g.n
 ·rw[if_pos oM] at hm;cases hm;obtain⟨y,hy⟩:∃ y,s.q.r.hi[v]?=some y:=zO (by rw[hq];show v<(x.r.bs.map _).length;rw[y8,hx.r.bs];exact hlt);have f2:=P9 hv hy;refine⟨λt ht=>?_,λt ht=>?_,λw=>?_⟩
  all_goals grind [SC,dD,Q6,eJ,eM]
 ·(rw[if_neg oM] at hm;have e:(v:Int)-s.q.g.n=((v-x.g.n:Nat):Int):=by omega);have hp:s.q.g.us[v-x.g.n]?=some (fA x.g.us[v-x.g.n]):=by rw[hq];show (x.g.us.map fA)[v-x.g.n]?=_;grind
  rw[e] at hm;split at hm;{cases hm};{rename_i hb;cases hm;obtain⟨b1,b2⟩:=F6 s ((v-x.g.n:Nat):Int);have h1:(s.best ((v-x.g.n:Nat):Int)).1≠0:=λg=>hb (.inl g);have h2:(s.best ((v-x.g.n:Nat):Int)).2≠0:=λg=>hb (.inr g);obtain⟨m1,c1,c2,c3⟩:=b1 h1;obtain⟨m2,d1,d2,d3⟩:=b2 h2;have:=Tj hv hp (Zf h1 c1 c2 c3) (Zf h2 d1 d2 d3);grind}
def Vz {s:Scp}{x:FQry}(hq:s.q=x.q)(hv:s.q.valid=true)(hx:x.small):∀ {ts:List (Int×Rat)} {l l':List (Row×Rat)},(∀ t,t∈ts->0<=t.1/\t.1<((x.g.n+x.g.us.length:Nat):Int)) ->s.aboveL ts l=some l'->AV s l->Rs l->AV s l'/\Rs l'/\∀ w,SC s w l'=SC s w l+co ts w
 |[],l,l',_,h,ha,hr=>by cases h;exact⟨ha,hr,λw=>by show _=_+(0:Rat);grind⟩
 |t::r,l,l',hb,h,ha,hr=>by
  (obtain⟨h1,h2⟩:=hb t xV;obtain⟨v,hv1⟩:∃ v:Nat,t.1=v:=⟨t.1.toNat,by omega⟩;have hvl:v<x.g.n+x.g.us.length:=by omega);unfold Scp.aboveL at h
  (have hm:∀ {more:List (Row×Rat)},(if 0<z3 t.2 then some (s.atLeastM t.1) else s.atMostM t.1)=some more->AV s more/\(∀ t,t∈more->0<=t.2)/\∀ w,vP t.2*SC s w more=(if t.1=w then t.2 else 0):=λ{more} g=>by rw[hv1] at g ⊢;split at g;{rename_i hs;cases g;obtain⟨g1,g2,g3⟩:=DK hq hv hx hvl;refine⟨g1,g2,λw=>?_⟩;have hp:=cJ.1 hs;rw[g3];unfold vP dlt;grind};grind [BM,cJ,vP,dlt]);split at h;{cases h};{rename_i more hmore;obtain⟨g1,g2,g3⟩:=hm hmore;obtain⟨k1,k2,k3⟩:=Vz hq hv hx (λu hu=>hb u (xQ _ hu)) h (Hn g1 ha) (VA (Df t.2) g2 hr);grind [Hl,co]}

theorem Gn (q:Rat):Cn (F.num q).ts:=Cn.nil
theorem WY {f g:F}(hf:Cn f.ts)(hg:Cn g.ts):Cn (f.sub g).ts:=Cn.mrg hf hg
def Nv {f g:F}(hf:Cn f.ts)(hg:Cn g.ts):Cn (f.add g).ts:=Cn.mrg hf hg
theorem WZ {f:F}{c:Rat}(hf:Cn f.ts):Cn (f.scale c).ts:=Cn.mrg Cn.nil hf
def Tl {s:Scp}{r:Row}{p v f:F}{l u:Option Rat}(hp:Cn p.ts)(hv:Cn v.ts)(h:unF s r p v l u=some f):Cn f.ts:=by
 have two:∀ {c:Prop} [Decidable c] {x:F},(if c then some x else none)=some f->x=f:=λh=>by grind
 unfold unF at h;by_cases h5:r.k=5;{grind};rw[if_neg h5] at h;by_cases h6:r.k=6;{rw[if_pos h6] at h;grind [WY]};rw[if_neg h6] at h;by_cases h7:r.k=7;{rw[if_pos h7] at h;rw[<-two h];exact Nv hp Cn.nil};rw[if_neg h7] at h;by_cases h8:r.k=8;{rw[if_pos h8] at h;grind [WY]};rw[if_neg h8] at h;by_cases h9:r.k=9;{rw[if_pos h9] at h;rw[<-two h];exact WZ hp};rw[if_neg h9] at h;by_cases h10:r.k=10;{rw[if_pos h10] at h;rw[<-two h];exact WZ hv};rw[if_neg h10] at h;by_cases h11:r.k=11;{rw[if_pos h11] at h;grind [WY,Gn]};rw[if_neg h11] at h;by_cases h12:r.k=12;{rw[if_pos h12] at h;grind [WY,Gn]};rw[if_neg h12] at h;by_cases h13:r.k=13;{rw[if_pos h13] at h;grind [WY,WZ,Gn]};grind

def Scp.onU (s:Scp) (j:Int):Bool:=s.dcd 1 j || (decide (0<(s.best j).1)&&decide (0<=z3 (qT s.lems (s.best j).1)))
def Scp.offU (s:Scp) (j:Int):Bool:=s.dcd 2 j || (decide (0<(s.best j).2)&&decide (z3 (qT s.lems (s.best j).2)<=0))






def G4 (s:Scp)(n unit:Int)(up:Bool)(hs:Lsz (2^32) s.lems):zD 281 [sv s,iV n,iV unit,bV up] (.tup [rv (zG ((s.lem n unit up).getD 0)),bV ((s.lem n unit up).isSome)]):=by
 refine sF Tryz.f281 ?_;have hno:=λh=>Ws (s:=s) (n:=n) (unit:=unit) (up:=up) h;have hat:=λ(m:Lem) h1 h2 h3=>Wu (s:=s) (n:=n) (unit:=unit) (up:=up) (m:=m) h1 h2 h3;have hsl:=hs.len;have hss:=hs.sz;generalize s.lem n unit up=o at *;obtain⟨⟨⟨gn,us,os⟩,⟨lo,hi,rows⟩,⟨ts,c1,c2,c3⟩⟩,path,lems⟩:=s;simp only at hno hat hsl hss;have fin:∀ (W:R) (b:Bool),o=none->W=zG (o.getD 0)/\b=o.isSome->W=R0/\b=false:=λW b h1 h2=>by rw[h1] at h2;exact⟨by rw[h2.1];exact u9,h2.2⟩
 obtain⟨W,hW⟩:∃ W,W=zG (o.getD 0):=⟨_,rfl⟩;obtain⟨b,hb⟩:∃ b,b=o.isSome:=⟨_,rfl⟩;rw[<-hW,<-hb];have fin':o=none->W=R0/\b=false:=λh=>fin W b h ⟨hW,hb⟩;have fin2:∀ q,o=some q->W=zG q/\b=true:=λq h=>by grind
 clear fin hW hb;obtain⟨W1,W2,W3⟩:=W;have fin3:o=none->W1=false/\W2=[]/\W3=[]/\b=false:=λh=>by grind
 clear fin';cbv;refine zQ (λe1=>?_) (λe1=>?_);{cbv;obtain⟨g1,g2,g3,g4⟩:=fin3 (hno oM);subst g1 g2 g3 g4;exact rA};cbv;refine zQ (λe2=>?_) (λe2=>?_);{cbv;obtain⟨g1,g2,g3,g4⟩:=fin3 (hno (by rw[zA] at e2;exact om));subst g1 g2 g3 g4;exact rA};cbv;rw[zA] at e2;obtain⟨m,hm⟩:∃ m,lems[(n-1).toNat]?=some m:=zO (by exact om);have hat':=hat m oM (by exact om) hm;have hms:=hss m (zX hm);have cc:=s47 m.v hms;have idx:∀ {K:List PV->Prop},K (lc m)->IdxOk 6 (λ_=>enc lc lems) (λ_=>n-1) K:=λhK=>xH (l:=lems) (n-1).toNat oM (by exact om) y0 xD (λm' hm'=>by grind);generalize hq:m.v.q=q at *;obtain⟨mu,mup,⟨v1,v2,v3⟩,mpf⟩:=m;simp only at hat';clear hat hno hq;generalize hwq:zG q=wq at *;refine⟨zC om om,idx ?_⟩;cbv;refine zQ (λe3=>?_) (λe3=>?_);{cbv;refine⟨zC om om,idx ?_⟩;cbv;refine zE (λe4=>?_) (λe4=>?_);{cbv;obtain⟨g1,g2⟩:=fin2 q (by grind);rw[hwq] at g1;subst g1 g2;refine⟨zC om om,idx ?_⟩;cbv;refine cA cc ?_;cbv;exact rA};{cbv;obtain⟨g1,g2,g3,g4⟩:=fin3 (by grind);subst g1 g2 g3 g4;exact rA}};{cbv;obtain⟨g1,g2,g3,g4⟩:=fin3 (by grind);subst g1 g2 g3 g4;exact rA}
def oN (s:Scp)(kind unit:Int)(hs:Dsz (2^32) s.path):zD 169 [sv s,iV kind,iV unit] (bV (s.dcd kind unit)):=by
 refine sF Tryz.f169 ?_;have cf:∀ d,d∈s.path->zD 163 [qv s.q,dv d] (bV (d.fits s.q)):=λd h=>HF s.q d (hs.sz d h);have hpl:=hs.len;generalize hr:s.dcd kind unit=r;have hr0:r=(s.path.drop 0).any (λd=>decide (d.k=kind)&&(decide (d.i=unit)&&d.fits s.q)):=hr.symm;obtain⟨ft,hft⟩:∃ ft:Dec->Bool,∀ d,ft d=d.fits s.q:=⟨_,λ_=>rfl⟩;simp only[<-hft] at cf hr0;obtain⟨P,hP⟩:∃ P:Dec->Bool,(λd=>decide (d.k=kind)&&(decide (d.i=unit)&&ft d))=P:=⟨_,rfl⟩;rw[hP] at hr0;have hPd:∀ d,P d=(decide (d.k=kind)&&(decide (d.i=unit)&&ft d)):=λd=>by grind
 clear hP hft hr hs;cbv;refine zW (σ:=Nat) (λi=>⟨[(1,iV kind),(2,iV unit),(3,.ptr 3 0),(7,iV i)],[(3,.box (sc s))]⟩) (λi=>i<=s.path.length/\r=(s.path.drop i).any P) (λi=>s.path.length-i) 0 ⟨by omega,hr0⟩ (wkZ) ?_;clear hr0;intro i hi;obtain⟨h1,h2⟩:=hi;cbv;refine zE (λh5=>?_) (λh5=>?_)
 ·have hlt:=uL h5;obtain⟨d,hd⟩:=zO hlt;have cv:=cf d (zX hd);rw[zU hd,Vu,hPd] at h2;generalize ft d=fd at *;generalize hrest:(s.path.drop (i+1)).any P=rest at *;cbv;refine zM 28 (by cbv) ?_;cbv;refine yB hd uW qN ?_;cbv;refine zQ (λe1=>?_) (λe1=>?_)
  rotate_left
  {rw[decide_eq_false e1,kK,s6] at h2;cbv;exact⟨zC om om,i+1,⟨om,by grind⟩,om,wkZ⟩};rw[decide_eq_true e1,yN] at h2;cbv;refine yB hd uW qN ?_;cbv;refine zQ (λe2=>?_) (λe2=>?_)
  rotate_left
  {rw[decide_eq_false e2,kK,s6] at h2;cbv;exact⟨zC om om,i+1,⟨om,by grind⟩,om,wkZ⟩};rw[decide_eq_true e2,yN] at h2;cbv;refine yB hd uW qN ?_;cbv;refine dA cv ?_;cbv;refine zP (λe3=>?_) (λe3=>?_)
  ·rw[e3,Vp] at h2;cbv
   (refine rC ?_;cbv)
   exact yH h2
  {rw[e3,s6] at h2;cbv;exact⟨zC om om,i+1,⟨om,by grind⟩,om,wkZ⟩}
 ·have he:=kU h5 h1;rw[he,wD] at h2;have h2':r=false:=h2;cbv
  (refine rC ?_;cbv)
  exact zK h2'
def G6 {f g:F}(hf:Cn f.ts)(hg:Cn g.ts){k n k' n':Nat}(h1:f.fl k n)(h2:g.fl k' n')(hk:k<=2^26)(hk':k'<=2^26)(hn:n<=2^35)(hn':n'<=2^35):zD 118 [fv f,fv g] (fv (f.add g)):=by have h:=CR f.ts (zG f.c) (fA g) hf (by rw[show (fA g).ts=tR g.ts from rfl,KA];exact hg) ⟨by have:=h1.len;omega,λt ht=>(h1.t t ht).mono oM⟩ ((zT h1.c).mono oM) ((UN h2 oM).mono oM) (by have:=h1.len;have:=h2.len;rw[show (fA g).ts=tR g.ts from rfl,w4];omega);rw[qP,zV] at h;exact h
def Yr {f g:F}(hf:Cn f.ts)(hg:Cn g.ts){k n k' n':Nat}(h1:f.fl k n)(h2:g.fl k' n')(hk:k<=2^26)(hk':k'<=2^26)(hn:n<=2^35)(hn':n'<=2^35):zD 164 [fv f,fv g] (fv (f.sub g)):=by have h:=HE f.ts (zG f.c) (fA g) hf (by rw[show (fA g).ts=tR g.ts from rfl,KA];exact hg) ⟨by have:=h1.len;omega,λt ht=>(h1.t t ht).mono oM⟩ ((zT h1.c).mono oM) ((UN h2 oM).mono oM) (by have:=h1.len;have:=h2.len;rw[show (fA g).ts=tR g.ts from rfl,w4];omega);rw[qP,zV] at h;exact h
def fO {f:F}{q:Rat}{k n m:Nat}(h1:f.fl k n)(hq:Fits m q)(hk:k<=2^31)(hn:n<=2^35)(hm:m<=2^31):zD 100 [fv f,rv (zG q)] (fv (f.scale q)):=by have h:=XI (fA f) (zG q) ((UN h1 oM).mono oM) ((zT hq).mono oM);rw[qP,zV] at h;exact h
def Lm (q:Rat):zD 165 [rv (zG q)] (fv (F.num q)):=i4 (zG q)
theorem Fi {x:R}(h:x.ok=true):zG x.q=x:=(of_decide_eq_true h).symm
def Kv {vars:Int}:∀ {ts:List (Int×R)} {p:Int},vT vars p ts=true->tR (tq ts)=ts/\Cn (tq ts)/\∀ t,t∈tq ts->p<t.1
 |[],p,_=>⟨rfl,Cn.nil,λt h=>absurd h (by simp[tq])⟩| t::r,p,h=>by rw[YV] at h;simp only[yK,decide_eq_true_eq] at h;obtain⟨⟨⟨⟨⟨h1,h2⟩,h3⟩,h4⟩,h5⟩,h6⟩:=h;obtain⟨g1,g2,g3⟩:=Kv h6;refine⟨?_,?_,λu hu=>?_⟩;{grind [tR,tq,Fi]};{exact Cn.cons (t:=(t.1,t.2.q)) g2 g3 h4};{rcases yI.1 hu with rfl|hu;{exact h3};{have:=g3 u hu;omega}}
def cT {a:A}{vars:Int}(h:a.valid vars=true):fA a.f=a/\Cn a.f.ts:=by unfold A.valid at h;simp only[yK] at h;obtain⟨g1,g2,_⟩:=Kv h.1;refine⟨?_,g2⟩;obtain⟨ts,c⟩:=a;show (⟨tR (tq ts),zG c.q⟩:A)=⟨ts,c⟩;grind [Fi]
theorem add_zero {f:F}(h:Cn f.ts):f.add F.zero=f:=by refine F.ext' ?_ ?_;{refine (Cn.mrg h Cn.nil).ext h (λv=>?_);grind [co,sY]};{show f.c+0*1=f.c;grind}
structure Qry.can (q:Qry):Prop where
 us:∀ a,a∈q.g.us->fA a.f=a/\Cn a.f.ts
 os:∀ a,a∈q.g.os->fA a.f=a/\Cn a.f.ts
 rows:∀ a,a∈q.r.rows->fA a.f=a/\Cn a.f.ts
 lo:∀ x,x∈q.r.lo->zG x.q=x
 hi:∀ x,x∈q.r.hi->zG x.q=x
def NK:∀ {lo hi:List R},lo.length=hi.length->vB lo hi=true->(∀ x,x∈lo->zG x.q=x)/\∀ x,x∈hi->zG x.q=x:=λhe h=>by rw[Xj he] at h;simp only[yK,gG] at h;grind [Fi]
theorem Qry.can_of {q:Qry}(h:q.valid=true):q.can:=by unfold Qry.valid Grp.valid Reg.valid at h;simp only[yK,decide_eq_true_eq,gG] at h;obtain⟨⟨⟨⟨h1,h2⟩,h3⟩,⟨h4,h5⟩,h6⟩,h7⟩:=h;obtain⟨b1,b2⟩:=NK oM h5;refine⟨λa ha=>?_,λa ha=>cT (h3 a ha),λa ha=>cT (h6 a ha),b1,b2⟩;obtain⟨j,_,hj⟩:=U5 h2 ha;exact cT hj
def u8c (b:UInt8):List PV:=[.int .u8 (λ_=>(b.toNat:Int))]
def mU (b:UInt8):yS qZ (u8c b)=true:=rfl
def n6 (b:UInt8):(u8c b).length=1:=rfl
abbrev u8v (raw:List UInt8):PV:=.sl (λ_=>enc u8c raw)
abbrev fdo (raw:List UInt8) (a:Nat):List (Nat×Obj'):=[(1000000,.box [u8v raw,iV a])]
def b8 (raw:List UInt8)(a n:Nat)(hr:raw.length<2^38)(hn:0<n)(hn2:n<2^60)(ha:a<=raw.length):Sound 117 [.ptr 1000000 0,iV n] (fdo raw a) [] (iV ((fdN raw n a:Int))) (fdo raw (na raw a)) []:=by
 refine sF Tryz.f117 ?_;have h0:¬a<raw.length->fdN raw n a=0:=λh=>by unfold fdN;grind
 have h1:∀ x,raw[a]?=some x->fdN raw n a=x.toNat%n:=λx h=>by grind [fdN]
 have n0:¬a<raw.length->na raw a=a:=λh=>if_neg h;have n1:a<raw.length->na raw a=a+1:=λh=>if_pos h;generalize fdN raw n a=r at *;generalize na raw a=b at *;cbv;refine zM 10 (by cbv) ?_;cbv;refine zE (λh=>?_) (λh=>?_)
 ·(have hlt:¬a<raw.length:=by rw[zA] at h;exact om);have e1:=h0 hlt
  have e2:=n0 hlt;cbv;subst e1 e2;exact iM rfl (lR) rfl rfl rfl rfl
 ·(have hlt:a<raw.length:=by rw[zA] at h;exact om);obtain⟨x,hx⟩:=zO hlt
  (have e1:=h1 x hx;have e2:=n1 hlt;cbv;refine⟨zC om om,?_⟩;cbv;refine zM 15 (by cbv) ?_;cbv;refine⟨zC om om,xH (l:=raw) a om hlt mU n6 (λx' hx'=>?_)⟩;obtain rfl:x'=x:=by grind);have hx8:=x'.toNat_lt
  cbv;refine⟨vX om,?_⟩;cbv;refine ZR (.le (ps':=⟨[(4,iV r)],[(1000000,.box [u8v raw,iV b])]⟩) ?_ ?_ rfl) rfl (lR) rfl rfl rfl rfl;{cbv;refine⟨zB ?_,trivial⟩;show irem (nx .i64 (x'.toNat:Int)) (n:Int)=_;unfold irem nx;rw[show IntKind.wrap .i64 (x'.toNat:Int)=(x'.toNat:Int) by grind [IntKind.wrap,IntKind.bits],e1];grind};{cbv;exact⟨⟨lR,zB om,trivial⟩,trivial⟩}
def D6 {k:Nat}(h:k<4):(k=0/\dnm k=1)\/(k=1/\dnm k=1)\/(k=2/\dnm k=2)\/(k=3/\dnm k=4):=by
 match k,h with
 |0,_=>exact .inl ⟨rfl,rfl⟩| 1,_=>exact .inr (.inl ⟨rfl,rfl⟩)| 2,_=>exact .inr (.inr (.inl ⟨rfl,rfl⟩))| 3,_=>exact .inr (.inr (.inr ⟨rfl,rfl⟩))
def HH (raw:List UInt8)(a:Nat)(hr:raw.length<2^38)(ha:a<=raw.length):Sound 116 [.ptr 1000000 0] (fdo raw a) [] (rv (zG (fdQ raw a).1)) (fdo raw (fdQ raw a).2) []:=by refine sF Tryz.f116 ?_;have c9:=b8 raw a 9 hr (by decide) (by decide) ha;have c4:=b8 raw (na raw a) 4 hr (by decide) (by decide) (dN ha);have h9:fdN raw 9 a<9:=kI (by decide);have h4:fdN raw 4 (na raw a)<4:=kI (by decide);have hd:=D6 h4;have hp:=FQ (fdN raw 4 (na raw a));have cf:=s43 ((fdN raw 9 a:Int)-4) (dnm (fdN raw 4 (na raw a))) oM oM oM oM oM;have e1:(fdQ raw a).1=rB ((fdN raw 9 a:Int)-4) (dnm (fdN raw 4 (na raw a))):=rfl;have e2:(fdQ raw a).2=na raw (na raw a):=rfl;rw[e1,e2];show wp _ _ (dT _ (rv (zG (rB ((fdN raw 9 a:Int)-4) (dnm (fdN raw 4 (na raw a)))))) (fdo raw (na raw (na raw a))) []);generalize zG (rB ((fdN raw 9 a:Int)-4) (dnm (fdN raw 4 (na raw a))))=X at *;generalize dnm (fdN raw 4 (na raw a))=d at *;generalize fdN raw 9 a=k9 at *;generalize fdN raw 4 (na raw a)=k4 at *;generalize na raw (na raw a)=b2 at *;generalize na raw a=b1 at *;clear e1 e2 hp;cbv;refine kA (λ_=>1000000) c9 ?_;cbv;refine⟨zC om om,?_⟩;cbv;refine kA (λ_=>1000000) c4 ?_;rcases hd with⟨q1,q2⟩|⟨q1,q2⟩|⟨q1,q2⟩|⟨q1,q2⟩;{subst q1 q2;cbv;refine bI 0 rfl (by decide) ?_;cbv;refine cA cf ?_;cbv;exact oS (.refl _) rfl rfl rfl rfl (by cbv;exact okA)};{subst q1 q2;cbv;refine bI 1 rfl (by decide) ?_;cbv;refine cA cf ?_;cbv;exact oS (.refl _) rfl rfl rfl rfl (by cbv;exact okA)};{subst q1 q2;cbv;refine bI 2 rfl (by decide) ?_;cbv;refine cA cf ?_;cbv;exact oS (.refl _) rfl rfl rfl rfl (by cbv;exact okA)};{subst q1 q2;cbv;refine bI 3 rfl (by decide) ?_;cbv;refine cA cf ?_;cbv;exact oS (.refl _) rfl rfl rfl rfl (by cbv;exact okA)}
def Gj {raw:List UInt8}{n v:Nat}{f:F}{a:Nat}(h:¬0<fdN raw 3 a):mN raw (n+1) v f a=mN raw n (v+1) f (na raw a):=if_neg h
def Gi {raw:List UInt8}{n v:Nat}{f:F}{a:Nat}(h:0<fdN raw 3 a):mN raw (n+1) v f a=mN raw n (v+1) (f.add ((F.var v).scale (fdQ raw (na raw a)).1)) (fdQ raw (na raw a)).2:=if_pos h
def Qm (raw:List UInt8)(n a:Nat)(hr:raw.length<2^38)(ha:a<=raw.length)(hn:n<=100):Sound 50 [.ptr 1000000 0,iV n] (fdo raw a) [] (fv (fdF raw n a).1) (fdo raw (fdF raw n a).2) []:=by
 refine sF Tryz.f50 ?_;have cq:∀ b,b<=raw.length->Sound 116 [.ptr 1000000 0] (fdo raw b) [] (rv (zG (fdQ raw b).1)) (fdo raw (fdQ raw b).2) []:=λb hb=>HH raw b hr hb;have c3:∀ b,b<=raw.length->Sound 117 [.ptr 1000000 0,iV 3] (fdo raw b) [] (iV ((fdN raw 3 b:Int))) (fdo raw (na raw b)) []:=λb hb=>b8 raw b 3 hr (by decide) (by decide) hb;have hna:∀ b,b<=raw.length->na raw b<=raw.length:=λb hb=>dN hb;have hq2:∀ b,b<=raw.length->(fdQ raw b).2<=raw.length:=λb hb=>eG hb;have hd:fdF raw n a=mN raw n 0 (F.num (fdQ raw a).1) (fdQ raw a).2:=rfl;show wp _ _ (dT _ (av (fA (fdF raw n a).1)) (fdo raw (fdF raw n a).2) []);generalize fdF raw n a=R at *;obtain⟨W,hW⟩:=ex (fA R.1);rw[hW];obtain⟨X0,hX0⟩:=ex (zG (fdQ raw a).1);have cq0:Sound 116 [.ptr 1000000 0] (fdo raw a) [] (rv X0) (fdo raw (fdQ raw a).2) []:=by subst hX0;grind
 cbv;refine kA (λ_=>1000000) cq0 ?_;cbv;refine zW (σ:=Nat×Nat×F) (λs=>⟨[(0,.ptr 1000000 0),(1,iV n),(4,.ptr 4 0),(5,.ptr 5 0),(6,iV s.1)],
   [(1000000,.box [u8v raw,iV s.2.1]),(4,.box [.nil,.ff,.nil,.nil]),(5,.box [.sl (λ_=>enc tc (fA s.2.2).ts),bV ((fA s.2.2).c.neg),.sl (λ_=>lm (fA s.2.2).c.num),.sl (λ_=>lm (fA s.2.2).c.den)])]⟩)
  (λs=>s.1<=n/\s.2.1<=raw.length/\R=mN raw (n-s.1) s.1 s.2.2 s.2.1/\s.2.2.wf s.1/\s.2.2.fl (1+6*s.1) s.1) (λs=>n-s.1)
  (0,(fdQ raw a).2,F.num (fdQ raw a).1) ⟨by omega,hq2 a ha,hd,F.wf.num _ _,(u6 (jO raw a)).mono oM oM⟩ (.le ?_ ?_ rfl) ?_
 {cbv;exact okA};{cbv;subst hX0;exact okA};clear hd cq0 hX0;intro s hs;obtain⟨v,b,f⟩:=s;obtain⟨g1,g2,g3,g4,g5⟩:=hs;dsimp only at g1 g2 g3 g4 g5;cbv;refine zE (λh=>?_) (λh=>?_)
 ·have hv:v<n:=om;rw[show n-v=(n-(v+1))+1 by omega] at g3;have c3':=c3 b g2;generalize hk3:fdN raw 3 b=k3 at *;cbv;refine kA (λ_=>1000000) c3' ?_;cbv;refine zE (λh2=>?_) (λh2=>?_)
  ·(rw[Gi (by rw[hk3];exact om)] at g3;have hq:=jO raw (na raw b);have hb':=hq2 (na raw b) (hna b g2);have cn:=cq (na raw b) (hna b g2);have csc:=fO (f:=F.var v) (gO v) hq (by decide) (by decide) (by decide);have w2:((F.var v).scale (fdQ raw (na raw b)).1).wf ((v+1:Nat):Int):=(F.wf.var oM oM).scale;have l2:((F.var v).scale (fdQ raw (na raw b)).1).fl (1+1+2) 1:=(gO v).scale hq;have cad:=G6 g4.cn w2.cn g5 l2 oM oM oM oM;have w3:=(g4.mono (by omega:(v:Int)<=((v+1:Nat):Int))).add w2;have l3:=(g5.add l2).mono (k':=1+6*(v+1)) (n':=v+1) oM oM;generalize (fdQ raw (na raw b)).2=b' at *;generalize (fdQ raw (na raw b)).1=q at *;generalize hS:(F.var v).scale q=S at *;generalize hT:f.add S=T at *;obtain⟨V,hV⟩:=ex (fA (F.var v));obtain⟨S',hS'⟩:=ex (fA S);obtain⟨T',hT'⟩:=ex (fA T);obtain⟨X,hX⟩:=ex (zG q);obtain⟨f',hf'⟩:=ex (fA f);have d1:zD 119 [iV v] (av V):=by subst hV;exact XH v);have d2:zD 100 [av V,rv X] (av S'):=by subst hV hX hS';exact csc
   (have d3:zD 118 [av f',av S'] (av T'):=by subst hf' hS' hT';exact cad);have d4:Sound 116 [.ptr 1000000 0] (fdo raw (na raw b)) [] (rv X) (fdo raw b') []:=by simp_all
   rw[hf'];clear hV hX hS' csc cad cn;cbv;refine vD 6 [(4,1000000)] (by cbv) (by cbv) (by cbv) ?_;cbv;refine dA d1 ?_;cbv;refine WQ (λ_=>1000000) rfl okA d4 rfl rfl rfl rfl rfl rfl ?_;cbv;refine dA d2 ?_;cbv;refine cA d3 ?_;cbv;refine⟨zC om om,(v+1,b',T),⟨om,hb',g3,w3,l3⟩,om,.le okZ ?_ rfl⟩;subst hT';exact okZ
  {rw[Gj (by rw[hk3];exact om)] at g3;have hb':=hna b g2;generalize na raw b=b' at *;cbv;exact⟨zC om om,(v+1,b',f),⟨om,hb',g3,g4.mono (by grind),g5.mono oM oM⟩,oM,wkZ⟩}
 ·(have hv:v=n:=om;have hR:R=(f,b):=by rw[g3,show n-v=0 by omega];rfl);subst hR
  have hW':fA f=W:=hW;cbv;subst hW';exact oS (.refl _) rfl rfl rfl rfl (by cbv;exact okA)
def NP:ty 22=.sli 1 1 [.int .u8 (λ_=>0)]:=by cbv
def Hr:ty 24=.sli 4 80 [.nil,.ff,.nil,.nil]:=by cbv
def ZL:ty 27=.sli 3 56 [.ff,.nil,.nil]:=by cbv
def Ml (raw:List UInt8)(hr:raw.length<2^38):Sound 49 [u8v raw] [] [] (.ptr 100 0) [] [(100,.box [u8v raw,iV (((0:Nat):Int))])]:=by
 refine sF Tryz.f49 ?_;cbv;refine s4 NP rfl rfl rfl rfl rfl rfl (wJ n6 _) (z5 oM (by grind [zA])) rfl ?_;cbv;refine mC 7 (.trans (.frz 5 rfl rfl ?_ ?_) (.le (ps':=⟨[(2,.ptr 7 0)],[(7,.box [u8v raw,iV (((0:Nat):Int))])]⟩) ?_ ?_ rfl)) rfl rfl rfl ?_
 ·cbv
  repeat' first|exact trivial|exact z8 (by simp[zA])|apply And.intro
 ·cbv
  repeat' first|exact trivial|exact z8 (by simp[zA])|apply And.intro
 {exact okZ};{cbv;exact⟨⟨zS (yW (by grind)),lR,trivial⟩,trivial⟩};{cbv;exact lR}
def WM (raw:List UInt8)(d k v a:Nat):fdL raw d (k+1) v a=((fdF raw v a).1::(fdL raw d k (v+d) (fdF raw v a).2).1,(fdL raw d k (v+d) (fdF raw v a).2).2):=rfl
def WL (raw:List UInt8)(d v a:Nat):fdL raw d 0 v a=([],a):=rfl
def bE {α:Type}(p:α->List PV)(l:List α)(a:α):enc p l++zL [p a]=enc p (l++[a]):=by rw[<-xZ];rfl
def CX (raw:List UInt8)(a:Nat)(hr:raw.length<2^38)(ha:a<=raw.length):Sound 250 [.ptr 1000000 0] (fdo raw a) [] (gv (fdG raw a).1.g) (fdo raw (fdG raw a).2) []:=by
 refine sF Tryz.f250 ?_;have c1:=b8 raw a 3 hr (by decide) (by decide) ha;have c2:=b8 raw (na raw a) 5 hr (by decide) (by decide) (dN ha);have c3:=b8 raw (na raw (na raw a)) 3 hr (by decide) (by decide) (dN (dN ha));have cF:∀ (v b:Nat),b<=raw.length->v<=100->Sound 50 [.ptr 1000000 0,iV v] (fdo raw b) [] (fv (fdF raw v b).1) (fdo raw (fdF raw v b).2) []:=λv b h1 h2=>Qm raw v b hr h1 h2;have hFl:∀ (v b:Nat),b<=raw.length->(fdF raw v b).2<=raw.length:=λv b h=>Q0 h;have l1:fdN raw 3 a<3:=kI (by decide);have l2:fdN raw 5 (na raw a)<5:=kI (by decide);have l3:fdN raw 3 (na raw (na raw a))<3:=kI (by decide);have hb3:na raw (na raw (na raw a))<=raw.length:=dN (dN (dN ha));have hG:fdG raw a=(⟨1+fdN raw 3 a,(fdL raw 1 (fdN raw 5 (na raw a)) (1+fdN raw 3 a) (na raw (na raw (na raw a)))).1,(fdL raw 0 (1+fdN raw 3 (na raw (na raw a))) (1+fdN raw 3 a+fdN raw 5 (na raw a)) (fdL raw 1 (fdN raw 5 (na raw a)) (1+fdN raw 3 a) (na raw (na raw (na raw a)))).2).1⟩,(fdL raw 0 (1+fdN raw 3 (na raw (na raw a))) (1+fdN raw 3 a+fdN raw 5 (na raw a)) (fdL raw 1 (fdN raw 5 (na raw a)) (1+fdN raw 3 a) (na raw (na raw (na raw a)))).2).2):=rfl;rw[hG];clear hG;generalize na raw (na raw (na raw a))=b3 at *;generalize na raw (na raw a)=b2 at *;generalize na raw a=b1 at *;generalize fdN raw 3 a=x1 at *;generalize fdN raw 5 b1=x2 at *;generalize fdN raw 3 b2=x3 at *;obtain⟨U,hU⟩:=ex (fdL raw 1 x2 (1+x1) b3);obtain⟨O,hO⟩:=ex (fdL raw 0 (1+x3) (1+x1+x2) U.2);rw[hU,hO];have hUl:U.1.length=x2:=by grind [aJ]
 have hOl:O.1.length=1+x3:=by grind [aJ]
 obtain⟨UA,hUA⟩:=ex (U.1.map fA);obtain⟨OA,hOA⟩:=ex (O.1.map fA);obtain⟨bO,hbO⟩:=ex O.2;have hgoal:gv (⟨1+x1,U.1,O.1⟩:FGrp).g=.agg [iV (((1+x1:Nat):Int)),alv UA,alv OA]:=by rw[<-hUA,<-hOA];rfl
 show wp _ _ (dT _ (gv (⟨1+x1,U.1,O.1⟩:FGrp).g) (fdo raw O.2) []);rw[hgoal,hbO];clear hgoal;cbv;refine kA (λ_=>1000000) c1 ?_;cbv;refine⟨zC om om,?_⟩;cbv;refine kA (λ_=>1000000) c2 ?_;cbv;refine kA (λ_=>1000000) c3 ?_;cbv;refine⟨zC om om,?_⟩;cbv;refine zW (σ:=Nat×Nat×List F) (λs=>⟨[(0,.ptr 1000000 0),(2,.ptr 2 0),(3,.ptr 3 0),(4,iV x2),(5,iV (((1+x3:Nat):Int))),(6,iV s.1)],
   [(1000000,.box [u8v raw,iV s.2.1]),(2,.box [iV 0,.nil,.nil]),(3,.box [iV (((1+x1:Nat):Int)),oV 31 4 s.2.2.length,.nil]),(31,aV 4 (enc ac (s.2.2.map fA)))]⟩)
  (λs=>s.1<=x2/\s.2.1<=raw.length/\U.1=s.2.2++(fdL raw 1 (x2-s.1) (1+x1+s.1) s.2.1).1/\U.2=(fdL raw 1 (x2-s.1) (1+x1+s.1) s.2.1).2) (λs=>x2-s.1)
  (0,b3,[]) ⟨by omega,hb3,by grind,by grind⟩
  (.trans (.le (ps':=⟨[(0,.ptr 1000000 0),(2,.ptr 2 0),(3,.ptr 3 0),(4,iV x2),(5,iV (((1+x3:Nat):Int))),(6,iV (((0:Nat):Int)))],
    [(1000000,.box [u8v raw,iV b3]),(2,.box [iV 0,.nil,.nil]),(3,.box [iV (((1+x1:Nat):Int)),.nil,.nil])]⟩) okZ okZ rfl)
   (.trans (.adoptB (ps:=⟨[(0,.ptr 1000000 0),(2,.ptr 2 0),(3,.ptr 3 0),(4,iV x2),(5,iV (((1+x3:Nat):Int))),(6,iV (((0:Nat):Int)))],
    [(1000000,.box [u8v raw,iV b3]),(2,.box [iV 0,.nil,.nil]),(3,.box [iV (((1+x1:Nat):Int)),.nil,.nil])]⟩) (cs:=[iV (((1+x1:Nat):Int)),.nil,.nil]) 31 4 3 1 rfl rfl rfl) (.le okZ ?_ rfl))) ?_
 {cbv;exact⟨okA,okA,okA,zH rfl,trivial⟩};intro s hs;obtain⟨j,b,us⟩:=s;obtain⟨g1,g2,g3,g4⟩:=hs;dsimp only at g1 g2 g3 g4;cbv;refine zE (λh=>?_) (λh=>?_)
 ·(have hj:j<x2:=om;rw[show x2-j=(x2-(j+1))+1 by omega,WM] at g3 g4;have cf:=cF (1+x1+j) b g2 oM;have hb':=hFl (1+x1+j) b g2;generalize hFF:fdF raw (1+x1+j) b=FF at *;obtain⟨W,hW⟩:=ex (fA FF.1);obtain⟨b',hbb⟩:=ex FF.2;have d1:Sound 50 [.ptr 1000000 0,iV (((1+x1+j:Nat):Int))] (fdo raw b) [] (av W) (fdo raw b') []:=by simp_all);rw[hbb] at g3 g4 hb'
  clear cf;cbv;refine vD 9 [(7,1000000)] (by cbv) (by cbv) (by cbv) ?_;cbv;refine⟨zC om om,?_⟩;cbv;refine WQ (λ_=>1000000) rfl (by exact⟨lR,zB om,trivial⟩) d1 rfl rfl rfl rfl rfl rfl ?_;cbv;refine wM Hr rfl rfl rfl (by simp[zA]) rfl ⟨by simp[zL,xE]⟩ (z5 oM (by have hus:us.length<x2:=(by have:=congrArg List.length g3;rw[hUl] at this;simp at this;omega);simp[zL,zA];exact om)) rfl ?_;cbv;refine⟨zC om om,(j+1,b',us++[FF.1]),⟨om,hb',by rw[g3];simp[ZG],by rw[g4];simp[ZG]⟩,oM,.le okZ ?_ rfl⟩;cbv;refine⟨okA,okA,⟨lR,zZ rfl (by simp[zL,zA]),lR,trivial⟩,zH ?_,trivial⟩;subst hW;show enc ac (us.map fA)++zL [ac (fA FF.1)]=enc ac ((us++[FF.1]).map fA);rw[bE,gH];rfl
 have hj:j=x2:=om;subst hj;rw[Vr,WL] at g3 g4;have e1:U.1=us:=by grind
 have e2:U.2=b:=g4;have hul:us.length=j:=by grind
 have hUAs:us.map fA=UA:=by grind
 rw[e2] at hO;clear g3 g4 h hU hUA e1 e2;cbv;refine zW (σ:=Nat×Nat×List F) (λs=>⟨[(0,.ptr 1000000 0),(2,.ptr 2 0),(3,.ptr 3 0),(4,iV j),(5,iV (((1+x3:Nat):Int))),(7,iV s.1)],
   [(1000000,.box [u8v raw,iV s.2.1]),(2,.box [iV 0,.nil,.nil]),(3,.box [iV (((1+x1:Nat):Int)),alv UA,oV 47 4 s.2.2.length]),(47,aV 4 (enc ac (s.2.2.map fA)))]⟩)
  (λs=>s.1<=1+x3/\s.2.1<=raw.length/\O.1=s.2.2++(fdL raw 0 (1+x3-s.1) (1+x1+j) s.2.1).1/\O.2=(fdL raw 0 (1+x3-s.1) (1+x1+j) s.2.1).2) (λs=>1+x3-s.1)
  (0,b,[]) ⟨by omega,g2,by grind,by grind⟩
  (.trans (.frz 31 rfl rfl (by cbv;repeat' first|exact trivial|exact z8 (by simp[zA])|apply And.intro) (by cbv;repeat' first|exact trivial|exact z8 (by simp[zA])|apply And.intro))
   (.trans (.le (ps':=⟨[(0,.ptr 1000000 0),(2,.ptr 2 0),(3,.ptr 3 0),(4,iV j),(5,iV (((1+x3:Nat):Int))),(7,iV (((0:Nat):Int)))],
    [(1000000,.box [u8v raw,iV b]),(2,.box [iV 0,.nil,.nil]),(3,.box [iV (((1+x1:Nat):Int)),alv UA,.nil])]⟩) okZ ?_ rfl)
   (.trans (.adoptB (ps:=⟨[(0,.ptr 1000000 0),(2,.ptr 2 0),(3,.ptr 3 0),(4,iV j),(5,iV (((1+x3:Nat):Int))),(7,iV (((0:Nat):Int)))],
    [(1000000,.box [u8v raw,iV b]),(2,.box [iV 0,.nil,.nil]),(3,.box [iV (((1+x1:Nat):Int)),alv UA,.nil])]⟩) (cs:=[iV (((1+x1:Nat):Int)),alv UA,.nil]) 47 4 3 2 rfl rfl rfl) (.le okZ ?_ rfl)))) ?_
 {cbv;exact⟨okA,okA,⟨lR,zS (by rw[xM,yW (by simp[zA]),hUAs]),lR,trivial⟩,trivial⟩};{cbv;exact⟨okA,okA,okA,zH rfl,trivial⟩};clear g2 hUAs hul;intro s hs;obtain⟨i,b,os⟩:=s;obtain⟨g1',g2,g3,g4⟩:=hs;dsimp only at g1' g2 g3 g4;cbv;refine zE (λh=>?_) (λh=>?_)
 ·(have hi:i<1+x3:=om;rw[show 1+x3-i=(1+x3-(i+1))+1 by omega,WM] at g3 g4;have cf:=cF (1+x1+j) b g2 oM;have hb':=hFl (1+x1+j) b g2;generalize hFF:fdF raw (1+x1+j) b=FF at *;obtain⟨W,hW⟩:=ex (fA FF.1);obtain⟨b',hbb⟩:=ex FF.2;have d1:Sound 50 [.ptr 1000000 0,iV (((1+x1+j:Nat):Int))] (fdo raw b) [] (av W) (fdo raw b') []:=by subst hW hbb;exact cf);rw[hbb] at g3 g4 hb'
  clear cf;cbv;refine vD 9 [(7,1000000)] (by cbv) (by cbv) (by cbv) ?_;cbv;refine⟨zC om om,?_⟩;cbv;refine WQ (λ_=>1000000) rfl (by exact⟨lR,zB om,trivial⟩) d1 rfl rfl rfl rfl rfl rfl ?_;cbv;refine wM Hr rfl rfl rfl (by simp[zA]) rfl ⟨by simp[zL,xE]⟩ (z5 (by simp[zL] <;> omega) (by have hos:os.length<1+x3:=(by have:=congrArg List.length g3;rw[hOl] at this;simp at this;omega);simp[zL,zA];exact om)) rfl ?_;cbv;refine⟨zC om om,(i+1,b',os++[FF.1]),⟨om,hb',by rw[g3];simp[ZG],by rw[g4];simp[ZG]⟩,(by show 1+x3-(i+1)<1+x3-i;omega),.le okZ ?_ rfl⟩;cbv;refine⟨okA,okA,⟨lR,lR,zZ rfl (by simp[zL,zA]),trivial⟩,zH ?_,trivial⟩;subst hW;show enc ac (os.map fA)++zL [ac (fA FF.1)]=enc ac ((os++[FF.1]).map fA);rw[bE,gH];rfl
 ·(have hi:i=1+x3:=om;subst hi;rw[Vr,WL] at g3 g4;have e1:O.1=os:=by grind);have e2:O.2=b:=g4
  (have e3:os.map fA=OA:=by grind);have e4:b=bO:=by omega
  subst e4;cbv;refine oS (.trans (.le (ps':=⟨[(2,.ptr 2 0)],[(1000000,.box [u8v raw,iV b]),(2,.box [iV (((1+x1:Nat):Int)),alv UA,oV 47 4 os.length]),(47,aV 4 (enc ac (os.map fA)))]⟩) okZ ?_ rfl) (.frz 47 rfl rfl (by cbv;repeat' first|exact trivial|exact z8 (by simp[zA])|apply And.intro) (by cbv;repeat' first|exact trivial|exact z8 (by simp[zA])|apply And.intro))) rfl rfl rfl rfl ?_;{cbv;exact⟨okA,okA,zH rfl,trivial⟩};{cbv;exact⟨lR,lR,zS (by rw[xM,yW (by simp[zA]),e3]),trivial⟩}
def Yw (q:Rat):q<0↔q.num<0:=by have:=Uk (zG q);grind [zV,BJ]
def sH (q:Rat):(⟨false,(zG q).num,(zG q).den⟩:R)=zG (vP q):=by unfold vP;split;{rename_i h;have h3:q.num<0:=(Yw q).1 h;simp[zG,h3];omega};{rename_i h;have h3:¬q.num<0:=λg=>h ((Yw q).2 g);simp[zG,h3]}
def AB (raw:List UInt8)(n a:Nat):fdB raw (n+1) a=(((fdQ raw a).1,(fdQ raw a).1+vP (fdQ raw (fdQ raw a).2).1)::(fdB raw n (fdQ raw (fdQ raw a).2).2).1,(fdB raw n (fdQ raw (fdQ raw a).2).2).2):=rfl
def Az (raw:List UInt8)(a:Nat):fdB raw 0 a=([],a):=rfl
def Dw (raw:List UInt8)(n a:Nat)(hr:raw.length<2^38)(ha:a<=raw.length)(hn:n<=100):Sound 251 [.ptr 1000000 0,iV n] (fdo raw a) [] (rgv (fdR raw n a).1.g) (fdo raw (fdR raw n a).2) []:=by
 refine sF Tryz.f251 ?_;have cQ:∀ b:Nat,b<=raw.length->Sound 116 [.ptr 1000000 0] (fdo raw b) [] (rv (zG (fdQ raw b).1)) (fdo raw (fdQ raw b).2) []:=λb h1=>HH raw b hr h1;have cN:∀ b:Nat,b<=raw.length->Sound 117 [.ptr 1000000 0,iV 3] (fdo raw b) [] (iV ((fdN raw 3 b:Int))) (fdo raw (na raw b)) []:=λb h1=>b8 raw b 3 hr (by decide) (by decide) h1;have cF:∀ b:Nat,b<=raw.length->Sound 50 [.ptr 1000000 0,iV n] (fdo raw b) [] (fv (fdF raw n b).1) (fdo raw (fdF raw n b).2) []:=λb h1=>Qm raw n b hr h1 hn;have hFl:∀ b:Nat,b<=raw.length->(fdF raw n b).2<=raw.length:=λb h=>Q0 h;have hQl:∀ b:Nat,b<=raw.length->(fdQ raw b).2<=raw.length:=λb h=>eG h;have hNl:∀ b:Nat,b<=raw.length->na raw b<=raw.length:=λb h=>dN h;have hN3:∀ b:Nat,fdN raw 3 b<3:=λb=>kI (by decide);have hG:fdR raw n a=(⟨(fdB raw n a).1,(fdL raw 0 (fdN raw 3 (fdB raw n a).2) n (na raw (fdB raw n a).2)).1⟩,(fdL raw 0 (fdN raw 3 (fdB raw n a).2) n (na raw (fdB raw n a).2)).2):=rfl;rw[hG];clear hG;obtain⟨U,hU⟩:=ex (fdB raw n a);rw[hU];obtain⟨O,hO⟩:=ex (fdL raw 0 (fdN raw 3 U.2) n (na raw U.2));rw[hO];have hUl:U.1.length=n:=by grind [Q1]
 have hOl:O.1.length=fdN raw 3 U.2:=by grind [aJ]
 obtain⟨LA,hLA⟩:∃ l,(U.1.map λb=>zG b.1)=l:=⟨_,rfl⟩;obtain⟨HA,hHA⟩:∃ l,(U.1.map λb=>zG b.2)=l:=⟨_,rfl⟩;obtain⟨OA,hOA⟩:=ex (O.1.map fA);obtain⟨bO,hbO⟩:=ex O.2;have hgoal:rgv (⟨U.1,O.1⟩:FReg).g=.agg [rlv LA,rlv HA,alv OA]:=by rw[<-hLA,<-hHA,<-hOA];rfl
 show wp _ _ (dT _ (rgv (⟨U.1,O.1⟩:FReg).g) (fdo raw O.2) []);rw[hgoal,hbO];clear hgoal;cbv;refine zW (σ:=Nat×Nat×List (Rat×Rat)) (λs=>⟨[(0,.ptr 1000000 0),(1,iV n),(4,.ptr 4 0),(5,.ptr 5 0),(6,iV s.1)],
   [(1000000,.box [u8v raw,iV s.2.1]),(4,.box [.nil,.nil,.nil]),(5,.box [oV 24 3 s.2.2.length,oV 31 3 s.2.2.length,.nil]),(24,aV 3 (enc rc (s.2.2.map λb=>zG b.1))),(31,aV 3 (enc rc (s.2.2.map λb=>zG b.2)))]⟩)
  (λs=>s.1<=n/\s.2.1<=raw.length/\U.1=s.2.2++(fdB raw (n-s.1) s.2.1).1/\U.2=(fdB raw (n-s.1) s.2.1).2/\s.2.2.length=s.1) (λs=>n-s.1)
  (0,a,[]) ⟨by omega,ha,by grind,by grind,rfl⟩
  (.trans (.le (ps':=⟨[(0,.ptr 1000000 0),(1,iV n),(4,.ptr 4 0),(5,.ptr 5 0),(6,iV (((0:Nat):Int)))],
    [(1000000,.box [u8v raw,iV a]),(4,.box [.nil,.nil,.nil]),(5,.box [.nil,.nil,.nil])]⟩) okZ okZ rfl)
   (.trans (.adoptB (ps:=⟨[(0,.ptr 1000000 0),(1,iV n),(4,.ptr 4 0),(5,.ptr 5 0),(6,iV (((0:Nat):Int)))],
    [(1000000,.box [u8v raw,iV a]),(4,.box [.nil,.nil,.nil]),(5,.box [.nil,.nil,.nil])]⟩) (cs:=[.nil,.nil,.nil]) 24 3 5 0 rfl rfl rfl)
   (.trans (.le (ps':=⟨[(0,.ptr 1000000 0),(1,iV n),(4,.ptr 4 0),(5,.ptr 5 0),(6,iV (((0:Nat):Int)))],
    [(1000000,.box [u8v raw,iV a]),(4,.box [.nil,.nil,.nil]),(5,.box [oV 24 3 0,.nil,.nil]),(24,aV 3 ([]))]⟩) okZ (by cbv;exact⟨okA,okA,okA,zH rfl,trivial⟩) rfl)
   (.trans (.adoptB (ps:=⟨[(0,.ptr 1000000 0),(1,iV n),(4,.ptr 4 0),(5,.ptr 5 0),(6,iV (((0:Nat):Int)))],
    [(1000000,.box [u8v raw,iV a]),(4,.box [.nil,.nil,.nil]),(5,.box [oV 24 3 0,.nil,.nil]),(24,aV 3 ([]))]⟩) (cs:=[oV 24 3 0,.nil,.nil]) 31 3 5 1 rfl rfl rfl) (.le okZ ?_ rfl))))) ?_
 {cbv;exact⟨okA,okA,okA,zH rfl,zH rfl,trivial⟩};intro s hs;obtain⟨j,b,us⟩:=s;obtain⟨g1,g2,g3,g4,g5⟩:=hs;dsimp only at g1 g2 g3 g4 g5;cbv;refine zE (λh=>?_) (λh=>?_)
 ·(have hj:j<n:=om;rw[show n-j=(n-(j+1))+1 by omega,AB] at g3 g4;have q1:=cQ b g2;have hb1:=hQl b g2;have q2:=cQ (fdQ raw b).2 hb1;have hb2:=hQl (fdQ raw b).2 hb1;have f1:=jO raw b;have f2:=jO raw (fdQ raw b).2;generalize (fdQ raw (fdQ raw b).2).2=b2 at *;generalize (fdQ raw (fdQ raw b).2).1=y at *;generalize (fdQ raw b).2=b1 at *;generalize (fdQ raw b).1=x at *;have qa:=s44 (zG x) ⟨false,(zG y).num,(zG y).den⟩ ((zT f1).mono (by decide)) (by rw[sH];exact (zT (jX f2)).mono (by decide));have e0:(⟨false,(zG y).num,(zG y).den⟩:R).q=vP y:=by rw[sH,zV]);rw[e0,zV] at qa
  (obtain⟨X1,hX1⟩:=ex (zG x);obtain⟨X2,hX2⟩:=ex (zG y);obtain⟨Y,hY⟩:=ex (zG (x+vP y));have d1:Sound 116 [.ptr 1000000 0] (fdo raw b) [] (rv X1) (fdo raw b1) []:=by simp_all);have d2:Sound 116 [.ptr 1000000 0] (fdo raw b1) [] (rv X2) (fdo raw b2) []:=by simp_all
  (have d3:zD 18 [rv X1,.agg [bV false,nat X2.num,nat X2.den]] (rv Y):=by subst hX1 hX2 hY;exact qa);clear q1 q2 qa e0
  cbv;refine kA (λ_=>1000000) d1 ?_;cbv;refine kA (λ_=>1000000) d2 ?_;cbv;refine Pq 13 [(4,24),(11,31)] (by cbv) (by cbv) ?_;cbv;refine FN ZL rfl ⟨by simp[zL,xE]⟩ rfl (by simp[zA]) (z5 (by simp[zL] <;> omega) (by simp[zL,zA];exact om)) ?_;cbv;refine dA d3 ?_;cbv;refine FN ZL rfl ⟨by simp[zL,xE]⟩ rfl (by simp[zA]) (z5 (by simp[zL] <;> omega) (by simp[zL,zA];exact om)) ?_;cbv;refine⟨zC om om,(j+1,b2,us++[(x,x+vP y)]),⟨om,hb2,by rw[g3];simp,by rw[g4],by simp[g5]⟩,(by show n-(j+1)<n-j;omega),.le okZ ?_ rfl⟩;cbv;refine⟨okA,okA,⟨zZ rfl (by simp[zL,zA]),zZ rfl (by simp[zL,zA]),lR,trivial⟩,zH ?_,zH ?_,trivial⟩;{subst hX1;show enc rc (us.map λb=>zG b.1)++zL [rc (zG x)]=enc rc ((us++[(x,x+vP y)]).map λb=>zG b.1);rw[bE,gH];rfl};{subst hY;show enc rc (us.map λb=>zG b.2)++zL [rc (zG (x+vP y))]=enc rc ((us++[(x,x+vP y)]).map λb=>zG b.2);rw[bE,gH];rfl}
 have hj:j=n:=om;subst hj;rw[Vr,Az] at g3 g4;have e1:U.1=us:=by grind
 have e2:U.2=b:=g4;have hLs:(us.map λb=>zG b.1)=LA:=by grind
 have hHs:(us.map λb=>zG b.2)=HA:=by grind
 rw[e2] at hO hOl;have n3:=cN b g2;have n4:=hN3 b;have n5:=hNl b g2;generalize fdN raw 3 b=k at *;generalize na raw b=b1 at *;clear g3 g4 h hU hUl hLA hHA e1 e2 cQ cN;cbv;refine kA (λ_=>1000000) n3 ?_;cbv;refine zW (σ:=Nat×Nat×List F) (λs=>⟨[(0,.ptr 1000000 0),(1,iV j),(4,.ptr 4 0),(5,.ptr 5 0),(9,iV s.1)],
   [(1000000,.box [u8v raw,iV s.2.1]),(4,.box [.nil,.nil,.nil]),(5,.box [rlv LA,rlv HA,oV 46 4 s.2.2.length]),(46,aV 4 (enc ac (s.2.2.map fA)))]⟩)
  (λs=>s.1<=k/\s.2.1<=raw.length/\O.1=s.2.2++(fdL raw 0 s.1 j s.2.1).1/\O.2=(fdL raw 0 s.1 j s.2.1).2) (λs=>s.1)
  (k,b1,[]) ⟨by omega,n5,by grind,by grind⟩
  (.trans (.frz 24 rfl rfl (by cbv;repeat' first|exact trivial|exact z8 (by simp[zA])|apply And.intro) (by cbv;repeat' first|exact trivial|exact z8 (by simp[zA])|apply And.intro))
   (.trans (.frz 31 rfl rfl (by cbv;repeat' first|exact trivial|exact z8 (by simp[zA])|apply And.intro) (by cbv;repeat' first|exact trivial|exact z8 (by simp[zA])|apply And.intro))
   (.trans (.le (ps':=⟨[(0,.ptr 1000000 0),(1,iV j),(4,.ptr 4 0),(5,.ptr 5 0),(9,iV k)],
    [(1000000,.box [u8v raw,iV b1]),(4,.box [.nil,.nil,.nil]),(5,.box [rlv LA,rlv HA,.nil])]⟩) okZ ?_ rfl)
   (.trans (.adoptB (ps:=⟨[(0,.ptr 1000000 0),(1,iV j),(4,.ptr 4 0),(5,.ptr 5 0),(9,iV k)],
    [(1000000,.box [u8v raw,iV b1]),(4,.box [.nil,.nil,.nil]),(5,.box [rlv LA,rlv HA,.nil])]⟩) (cs:=[rlv LA,rlv HA,.nil]) 46 4 5 2 rfl rfl rfl) (.le okZ ?_ rfl))))) ?_
 {cbv;exact⟨okA,okA,⟨zS (by rw[xM,yW (by simp[zA]),hLs]),zS (by rw[xM,yW (by simp[zA]),hHs]),lR,trivial⟩,trivial⟩};{cbv;exact⟨okA,okA,okA,zH rfl,trivial⟩};clear g2 hLs hHs n3;intro s hs;obtain⟨i,b,os⟩:=s;obtain⟨g1',g2,g3,g4⟩:=hs;dsimp only at g1' g2 g3 g4;cbv;refine zE (λh=>?_) (λh=>?_)
 ·(obtain⟨m,hm⟩:∃ m,i=m+1:=⟨i-1,by exact om⟩;subst hm;rw[WM] at g3 g4;have cf:=cF b g2;have hb':=hFl b g2;generalize hFF:fdF raw j b=FF at *;obtain⟨W,hW⟩:=ex (fA FF.1);obtain⟨b',hbb⟩:=ex FF.2;have d1:Sound 50 [.ptr 1000000 0,iV j] (fdo raw b) [] (av W) (fdo raw b') []:=by simp_all);rw[hbb] at g3 g4 hb'
  clear cf;cbv;refine vD 6 [(4,1000000)] (by cbv) (by cbv) (by cbv) ?_;cbv;refine WQ (λ_=>1000000) rfl okA d1 rfl rfl rfl rfl rfl rfl ?_;cbv;refine wM Hr rfl rfl rfl (by simp[zA]) rfl ⟨by simp[zL,xE]⟩ (z5 oM (by have hos:os.length<k:=(by grind);simp[zL,zA];exact om)) rfl ?_;cbv;refine⟨zC om om,(m,b',os++[FF.1]),⟨om,hb',by grind,by omega⟩,oM,.le okZ ?_ rfl⟩;cbv;refine⟨okA,okA,⟨lR,lR,zZ rfl (by simp[zL,zA]),trivial⟩,zH ?_,trivial⟩;subst hW;show enc ac (os.map fA)++zL [ac (fA FF.1)]=enc ac ((os++[FF.1]).map fA);rw[bE,gH];rfl
 ·(have hi:i=0:=om;subst hi;rw[WL] at g3 g4;have e1:O.1=os:=by grind);have e2:O.2=b:=g4
  (have e3:os.map fA=OA:=by grind);have e4:b=bO:=by omega
  subst e4;cbv;refine oS (.trans (.le (ps':=⟨[(4,.ptr 4 0)],[(1000000,.box [u8v raw,iV b]),(4,.box [rlv LA,rlv HA,oV 46 4 os.length]),(46,aV 4 (enc ac (os.map fA)))]⟩) okZ ?_ rfl) (.frz 46 rfl rfl (by cbv;repeat' first|exact trivial|exact z8 (by simp[zA])|apply And.intro) (by cbv;repeat' first|exact trivial|exact z8 (by simp[zA])|apply And.intro))) rfl rfl rfl rfl ?_;{cbv;exact⟨okA,okA,zH rfl,trivial⟩};{cbv;exact⟨lR,lR,zS (by rw[xM,yW (by simp[zA]),e3]),trivial⟩}
def N2 (raw:List UInt8)(a:Nat)(hr:raw.length<2^38)(ha:a<=raw.length):Sound 201 [.ptr 1000000 0] (fdo raw a) [] (qv (fdY raw a).1.q) (fdo raw (fdY raw a).2) []:=by
 refine sF Tryz.f201 ?_;have c1:=CX raw a hr ha;have s1:=UQ raw a;have b1:=Av (raw:=raw) ha;have c2:=Dw raw (fdG raw a).1.n (fdG raw a).2 hr b1 (by have:=s1.n2;omega);have b2:=Aq (raw:=raw) (n:=(fdG raw a).1.n) b1;have c3:=Qm raw ((fdG raw a).1.n+(fdG raw a).1.us.length) (fdR raw (fdG raw a).1.n (fdG raw a).2).2 hr b2 (by have:=s1.n2;have:=s1.us;omega);have hY:fdY raw a=(⟨(fdG raw a).1,(fdR raw (fdG raw a).1.n (fdG raw a).2).1,(fdF raw ((fdG raw a).1.n+(fdG raw a).1.us.length) (fdR raw (fdG raw a).1.n (fdG raw a).2).2).1⟩,(fdF raw ((fdG raw a).1.n+(fdG raw a).1.us.length) (fdR raw (fdG raw a).1.n (fdG raw a).2).2).2):=rfl;rw[hY];clear hY;have n2:=s1.n2;have u4:=s1.us;generalize fdG raw a=G at *;generalize fdR raw G.1.n G.2=Rr at *;generalize fdF raw (G.1.n+G.1.us.length) Rr.2=H at *;obtain⟨⟨gn,gus,gos⟩,gb⟩:=G;obtain⟨rr,rb⟩:=Rr;obtain⟨h,hb⟩:=H;dsimp only at c1 c2 c3 n2 u4;obtain⟨UA,hUA⟩:=ex (gus.map fA);obtain⟨OA,hOA⟩:=ex (gos.map fA);obtain⟨W,hW⟩:=ex (fA h);obtain⟨⟨lo,hi,rows⟩,hRR⟩:∃ r,rr.g=r:=⟨_,rfl⟩;have ul:UA.length=gus.length:=by grind
 have d1:Sound 250 [.ptr 1000000 0] (fdo raw a) [] (.agg [iV gn,alv UA,alv OA]) (fdo raw gb) []:=by subst hUA hOA;exact c1
 have d2:Sound 251 [.ptr 1000000 0,iV gn] (fdo raw gb) [] (.agg [rlv lo,rlv hi,alv rows]) (fdo raw rb) []:=by simp_all
 have d3:Sound 50 [.ptr 1000000 0,iV (((gn+gus.length:Nat):Int))] (fdo raw rb) [] (av W) (fdo raw hb) []:=by subst hW;exact c3
 have hgoal:qv (⟨⟨gn,gus,gos⟩,rr,h⟩:FQry).q=.agg [iV gn,alv UA,alv OA,rlv lo,rlv hi,alv rows,tsv W.ts,bV W.c.neg,nat W.c.num,nat W.c.den]:=by subst hUA hOA hW;show qv (⟨_,rr.g,_⟩:Qry)=_;rw[hRR];rfl
 show wp _ _ (dT _ (qv (⟨⟨gn,gus,gos⟩,rr,h⟩:FQry).q) (fdo raw hb) []);rw[hgoal];clear hgoal c1 c2 c3 hUA hOA hW hRR b1 b2 s1;cbv;refine kA (λ_=>1000000) d1 ?_;cbv;refine kA (λ_=>1000000) d2 ?_;cbv;refine vD 10 [(9,1000000)] (by cbv) (by cbv) (by cbv) ?_;cbv;refine⟨zC (by rw[zA];exact om) (by rw[zA];exact om),?_⟩;cbv;refine WQ (λ_=>1000000) rfl (by refine⟨lR,zB ?_,trivial⟩;rw[zA,ul];exact om) d3 rfl rfl rfl rfl rfl rfl ?_;cbv;exact oS (.refl _) rfl rfl rfl rfl (by cbv;exact okA)
end Go.Proofs.YtaeaffgjdcigoaaGreat
