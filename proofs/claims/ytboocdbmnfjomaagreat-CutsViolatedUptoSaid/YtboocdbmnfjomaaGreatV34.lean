/- A part of the proof: SxD, SxE, SxF, SxG, SxH, SxI, SxJ, SxK, SxL, SxM, SyA. -/
import Derived.Test.YtboocdbmnfjomaaGreatV33
import Derived.Test.YtboocdbmnfjomaaGreatV23
import Derived.Test.YtboocdbmnfjomaaGreatV31
set_option linter.all false
namespace Go.Proofs.YtboocdbmnfjomaaGreat
open Go
set_option maxRecDepth 100000
set_option maxHeartbeats 4000000
def lfit (k:Nat) (l:List Rat):Prop:=∀ c,c∈l->Fits k c
structure Dic.fit (D:Dic) (k:Nat):Prop where
 fs:∀ l,l∈D.fs->lfit k l
 ob:lfit k D.ob
theorem lfit.mono {k m:Nat}{l:List Rat}(h:lfit k l)(hm:k<=m):lfit m l:=λc hc=>(h c hc).mono hm
theorem Dic.fit.mono {D:Dic}{k m:Nat}(h:D.fit k)(hm:k<=m):D.fit m:=⟨λl hl=>(h.fs l hl).mono hm,h.ob.mono hm⟩
theorem lfit.getD {k:Nat}{l:List Rat}(h:lfit k l)(hk:1<=k)(j:Nat):Fits k (l.getD j 0):=by
 rw[wM];cases hj:l[j]? with
 |none=>exact wJ hk| some c=>exact h c (yE hj)
theorem lfit.set {k:Nat}{l:List Rat}{x:Rat}(h:lfit k l)(hx:Fits k x)(e:Nat):lfit k (l.set e x):=λc hc=>by rcases Rw hc with hc|hc;{exact h c hc};{rw[hc];exact hx}
theorem Ji {k m n:Nat}{a:Rat}(ha:Fits n a):∀ {l f:List Rat},lfit k l->lfit m f->lfit (k+(n+m)+1) (dY a l f)
 |[],_,_,_=>λc hc=>by unfold dY at hc;cases hc
 |x::l,[],h,_=>λc hc=>by unfold dY at hc;exact (h c hc).mono oM| x::l,y::f,h,g=>λc hc=>by unfold dY at hc;rcases yS.1 hc with hc|hc;{rw[hc];exact qE (h x vH) (wG ha (g y vH))};{exact Ji ha (λz hz=>h z (w6 _ hz)) (λz hz=>g z (w6 _ hz)) c hc}
theorem HS {k m:Nat}{l f:List Rat}{e:Nat}(hk:1<=k)(h:lfit k l)(g:lfit m f):lfit (k+(k+m)+1) (sbs l e f) :=
 Ji (h.getD hk e) (h.set (wJ hk) e) g
theorem We {k m:Nat}{a b:Rat}(ha:Fits k a)(hb:Fits m b):Fits (k+m) (a/b):=by rw[i5];exact wG ha (Wf hb)
theorem VK {k:Nat}{l:List Rat}{e:Nat}(hk:1<=k)(h:lfit k l):lfit (2*k) (kF l e):=by unfold kF;refine lfit.set (λc hc=>?_) ((We fits_one (h.getD hk e)).mono oM) e;obtain⟨d,hd,rfl⟩:=y9.1 hc;exact (We (bM (h d hd)) (h.getD hk e)).mono oM
theorem Kl {r e k m:Nat}{f:List Rat}(hk:1<=k)(hf:lfit m f):∀ {i:Nat} {ls:List (List Rat)},(∀ l,l∈ls->lfit k l)->∀ l,l∈tY r e f i ls->lfit (k+(k+m)+1) l
 |_,[],_,l,hl=>by cases hl
 |i,x::ls,h,l,hl=>by unfold tY at hl;rcases yS.1 hl with hl|hl;{rw[hl];split;{exact hf.mono oM};{exact HS hk (h x vH) hf}};{exact Kl hk hf (λy hy=>h y (w6 _ hy)) l hl}
theorem Dic.piv_fit {D:Dic}{r e k:Nat}(h:D.fit k)(hk:1<=k):(D.piv r e).fit (5*k):=by
 have hr:lfit k (D.fs.getD r []):=by
  rw[wM];cases hj:D.fs[r]? with
  |none=>exact λc hc=>by cases hc
  |some l=>exact h.fs l (yE hj)
 have hp:=VK (e:=e) hk hr;exact⟨λl hl=>(Kl hk hp h.fs l hl).mono oM,(HS hk h.ob hp).mono oM⟩
theorem Ww {X Y:Nat->Rat}:∀ {nb:List Nat} {l:List Rat},(∀ j,j<nb.length->l.getD j 0≠0->X (nb.getD j 0)=Y (nb.getD j 0))->dot X nb l=dot Y nb l
 |[],l,_=>rfl| v::vs,l,h=>by simp only[dot];rw[Ww (nb:=vs) (l:=l.tail) (X:=X) (Y:=Y) λj hj hne=>by have:=h (j+1) (by simpa using hj) (by cases l <;> simpa using hne);simpa using this];by_cases h0:l.headD 0=0;{rw[h0];grind};{have:=h 0 (by simp) (by cases l <;> simpa using h0);simp only[Rx] at this;rw[this]}
structure Same (D E:Dic):Prop where
 sat:∀ X,D.Sat X↔E.Sat X
 vars:∀ v,(v∈D.bs\/v∈D.nb)↔(v∈E.bs\/v∈E.nb)
theorem Same.symm {D E:Dic}(h:Same D E):Same E D:=⟨λX=>(h.sat X).symm,λv=>(h.vars v).symm⟩
theorem Same.trans {D E F:Dic}(h:Same D E)(g:Same E F):Same D F:=⟨λX=>(h.sat X).trans (g.sat X),λv=>(h.vars v).trans (g.vars v)⟩
theorem Same.refl (D:Dic):Same D D:=⟨λ_=>Iff.rfl,λ_=>Iff.rfl⟩
theorem Dic.piv_same {D:Dic}{r e:Nat}(h:D.wf)(hr:r<D.bs.length)(he:e<D.nb.length)(h0:D.at r e≠0):Same (D.piv r e) D:=⟨λX=>Dic.piv_sat h hr he h0,λv=>by
 have h1:=u7 (d:=0) hr;have h2:=u7 (d:=0) he;rw[Dic.piv_bs h (qD hr) (qD he),Dic.piv_nb h (qD hr) (qD he)];constructor;{rintro ((h3|h3)|(h3|h3));{rw[h3];exact .inr h2};{exact .inl h3.1};{rw[h3];exact .inl h1};{exact .inr h3.1}}
 ·rintro (h3|h3);{by_cases e2:v=D.bs.getD r 0;{exact .inr (.inl e2)};{exact .inl (.inr ⟨h3,e2⟩)}}
  ·by_cases e2:v=D.nb.getD e 0;{exact .inl (.inl e2)}
   ·exact .inr (.inr ⟨h3,e2⟩)⟩
theorem Tu {D E:Dic}(hD:D.wf)(hE:E.wf)(hs:Same D E){v i:Nat}(hv:D.bs[i]?=some v)(hv':v∈E.nb):∃ e,e<D.nb.length/\D.nb.getD e 0∉E.nb/\D.at i e≠0:=by
 refine QF λhno=>?_;obtain⟨l,hl⟩:=yZ (l:=D.fs) (i:=i) (by rw[hD.len];exact bS hv);have hat:∀ j,D.at i j=l.getD j 0:=λj=>by unfold Dic.at;rw[getD_some hl]
 have hX:=(hs.sat _).2 (Dic.ext_sat hE λ_=>(0:Rat));have hY:=(hs.sat _).2 (Dic.ext_sat hE λu=>if u=v then (1:Rat) else 0);have e1:=hX i v l hv hl;have e2:=hY i v l hv hl;have e3:dot (E.ext λ_=>(0:Rat)) D.nb l=dot (E.ext λu=>if u=v then (1:Rat) else 0) D.nb l:=Ww λj hj hne=>by have hin:D.nb.getD j 0∈E.nb:=QF λh=>hno ⟨j,hj,h,by rw[hat];exact hne⟩;rw[Dic.ext_nb hE _ hin,Dic.ext_nb hE _ hin,if_neg λe=>hD.ne (yE hv) (by rw[<-e];exact u7 hj)]
 rw[<-e3,<-e1,Dic.ext_nb hE _ hv',Dic.ext_nb hE _ hv',if_pos rfl] at e2;exact absurd e2 (by decide)
theorem Ug {α:Type}{p:α->Bool}{x y:α}:∀ {l:List α} {i:Nat},l[i]?=some x->p x=true->p y=false->(l.set i y).countP p+1=l.countP p
 |[],i,h,_,_=>by simp at h| a::l,0,h,h1,h2=>by simp only[l8,t5] at h;subst h;simp[List.countP_cons,h1,h2]| a::l,i+1,h,h1,h2=>by have:=Ug (l:=l) (i:=i) (by simpa using h) h1 h2;simp only[List.set_cons_succ,List.countP_cons];omega
theorem short {E:Dic}(hE:E.wf):∀ (n:Nat) {D:Dic} {k:Nat},D.wf->Same D E->1<=k->D.fit k->D.nb.countP (λv=>decide (v∉E.nb))<=n->∃ D',D'.wf/\Same D' D/\D'.fit (5^n*k)/\(∀ v,v∈D'.nb↔v∈E.nb)/\(∀ X,D.Sat X->D'.val X=D.val X)
 |n,D,k,hD,hs,hk,hf,hn=>by
  by_cases h0:D.nb.countP (λv=>decide (v∉E.nb))=0
  ·(have hsub:∀ v,v∈D.nb->v∈E.nb:=λv hv=>by have:=List.countP_eq_zero.1 h0 v hv;simpa using this);refine⟨D,hD,Same.refl D,hf.mono ?_,λv=>⟨hsub v,λhv=>?_⟩,λX _=>rfl⟩;{exact vF oM (uR k (Nat.one_le_pow n 5 (by decide)))}
   {refine QF λhno=>?_;obtain⟨i,hi⟩:=bL (((hs.vars v).2 (.inr hv)).resolve_right hno);obtain⟨e,he,h1,_⟩:=Tu hD hE hs hi hv;exact h1 (hsub _ (u7 he))}
  ·match n,hn with
   |0,hn=>omega| n+1,hn =>
    (obtain⟨w,hw,hw'⟩:=List.countP_pos_iff.1 (s5 h0);have hwE:w∉E.nb:=by simpa using hw');obtain⟨i',hi'⟩:=bL (((hs.vars w).1 (.inr hw)).resolve_right hwE)
    (obtain⟨e',he',h1,_⟩:=Tu hE hD hs.symm hi' hw;obtain⟨v,hv⟩:∃ v,v=E.nb.getD e' 0:=⟨_,rfl⟩;have hvE:v∈E.nb:=by rw[hv];exact u7 he');rw[<-hv] at h1
    (obtain⟨i,hi⟩:=bL (((hs.vars v).2 (.inr hvE)).resolve_right h1);obtain⟨e,he,h2,h3⟩:=Tu hD hE hs hi hvE;have hil:=bS hi;have hp:=Dic.piv_same hD hil he h3;have hc:(D.piv i e).nb.countP (λv=>decide (v∉E.nb))+1=D.nb.countP (λv=>decide (v∉E.nb)):=by show (D.nb.set e (D.bs.getD i 0)).countP _+1=_;rw[getD_some hi];exact Ug (qD (d:=0) he) (by simpa using h2) (by simpa using hvE));obtain⟨D',g1,g2,g3,g4,g5⟩:=short hE n (Dic.piv_wf hD hil he) (hp.trans hs) (k:=5*k) oM (Dic.piv_fit hf hk) oM;refine⟨D',g1,g2.trans hp,g3.mono (by rw[uO];rw[gM];exact yQ _),g4,λX hX=>?_⟩;rw[g5 X ((hp.sat X).2 hX),Dic.piv_val hD hil he h3 hX]
theorem AX {D E:Dic}(hD:D.wf)(hE:E.wf)(hs:Same D E)(hn:∀ v,v∈D.nb↔v∈E.nb){i j i' j' v:Nat}(hi:D.bs[i]?=some v)(hi':E.bs[i']?=some v)(hj:j<D.nb.length)(hj':j'<E.nb.length)(hw:D.nb.getD j 0=E.nb.getD j' 0):D.at i j=E.at i' j'/\D.cst i=E.cst i':=by
 have z0:∀ u,u∈D.nb->(D.ext λ_=>(0:Rat)) u=0:=λu hu=>Dic.ext_nb hD _ hu;have hX:=Dic.ext_sat hD λ_=>(0:Rat);have c1:=Dic.zero_bs hD z0 hi hX;have c2:=Dic.zero_bs hE (λu hu=>z0 u ((hn u).2 hu)) hi' ((hs.sat _).1 hX);have o0:∀ u,u∈D.nb->(D.ext λu=>if u=D.nb.getD j 0 then (1:Rat) else 0) u=if u=D.nb.getD j 0 then (1:Rat) else 0:=λu hu=>Dic.ext_nb hD _ hu
 have hY:=Dic.ext_sat hD λu=>if u=D.nb.getD j 0 then (1:Rat) else 0
 have c3:=Dic.one_bs hD hj (λm hm hne=>by rw[o0 _ (u7 hm),if_neg λe=>hne (YL hD.nb (by rw[qD hm,e]) (qD hj))]) hi hY;have c4:=Dic.one_bs hE hj' (λm hm hne=>by rw[o0 _ ((hn _).2 (u7 hm)),if_neg λe=>hne (YL hE.nb (by rw[qD hm,e,hw]) (qD hj'))]) hi' ((hs.sat _).1 hY);rw[o0 _ (u7 hj),if_pos rfl] at c3;rw[<-hw,o0 _ (u7 hj),if_pos rfl] at c4;have h1:D.cst i=E.cst i':=by rw[<-c1,<-c2]
 refine⟨?_,h1⟩;rw[c3,h1] at c4;grind
theorem Bj {D:Dic}{k:Nat}(h:D.fit k)(hk:1<=k)(i j:Nat):Fits k (D.at i j):=by
 unfold Dic.at
 refine lfit.getD ?_ hk j;rw[wM];cases hj:D.fs[i]? with
 |none=>exact λc hc=>by cases hc
 |some l=>exact h.fs l (yE hj)
theorem AW {D E:Dic}(hD:D.wf)(hE:E.wf)(hs:Same D E)(hz:∀ X,D.Sat X->D.val X=E.val X)(hn:∀ v,v∈D.nb↔v∈E.nb):(∀ j j',j<D.nb.length->j'<E.nb.length->D.nb.getD j 0=E.nb.getD j' 0->D.ob.getD j 0=E.ob.getD j' 0)/\D.ob.getD D.nb.length 0=E.ob.getD E.nb.length 0:=by
 have z0:∀ u,u∈D.nb->(D.ext λ_=>(0:Rat)) u=0:=λu hu=>Dic.ext_nb hD _ hu;have hX:=Dic.ext_sat hD λ_=>(0:Rat);have c0:D.ob.getD D.nb.length 0=E.ob.getD E.nb.length 0:=by have h1:=hz _ hX;unfold Dic.val at h1;rw[mY z0,mY λu hu=>z0 u ((hn u).2 hu)] at h1;exact h1
 refine⟨λj j' hj hj' hw=>?_,c0⟩;have o0:∀ u,u∈D.nb->(D.ext λu=>if u=D.nb.getD j 0 then (1:Rat) else 0) u=if u=D.nb.getD j 0 then (1:Rat) else 0:=λu hu=>Dic.ext_nb hD _ hu
 have hY:=Dic.ext_sat hD λu=>if u=D.nb.getD j 0 then (1:Rat) else 0
 have h1:=hz _ hY;unfold Dic.val at h1;rw[YT hD.nb hj (λm hm hne=>by rw[o0 _ (u7 hm),if_neg λe=>hne (YL hD.nb (by rw[qD hm,e]) (qD hj))]),
  YT hE.nb hj' (λm hm hne=>by rw[o0 _ ((hn _).2 (u7 hm)),if_neg λe=>hne (YL hE.nb (by rw[qD hm,e,hw]) (qD hj'))]),<-hw,o0 _ (u7 hj),if_pos rfl,c0] at h1
 grind
theorem Gj {k n:Nat}{l:List Rat}(hl:l.length=n+1)(h:∀ j,j<n->Fits k (l.getD j 0))(h0:Fits k (l.getD n 0)):lfit k l:=λc hc=>by obtain⟨j,hj⟩:=bL hc;have hjl:=bS hj;have e:l.getD j 0=c:=getD_some hj;rw[<-e];by_cases hjn:j=n;{rw[hjn];exact h0};{exact h j oM}
theorem DH {D E:Dic}{k n:Nat}(hD:D.wf)(hE:E.wf)(hs:Same D E)(hz:∀ X,D.Sat X->D.val X=E.val X)(hk:1<=k)(hf:D.fit k)(hn:D.nb.length<=n):E.fit (5^n*k):=by
 obtain⟨D',g1,g2,g3,g4,g5⟩:=short hE n hD hs hk hf (vF List.countP_le_length hn);have hk':1<=5^n*k:=vF hk (Ai k (QK (by decide)));have hs':Same E D':=(g2.trans hs).symm;have hn':∀ v,v∈E.nb↔v∈D'.nb:=λv=>(g4 v).symm;constructor
 ·intro l hl;obtain⟨i,hi⟩:=bL hl;have hil:=bS hi;rw[hE.len] at hil;obtain⟨v,hv⟩:=yZ hil;have hvD:v∈D'.bs:=by rcases (hs'.vars v).1 (.inl (yE hv)) with h|h;{exact h};{exact (hE.ne (yE hv) ((hn' v).2 h)).elim}
  (obtain⟨i',hi'⟩:=bL hvD;have hat:∀ j,E.at i j=l.getD j 0:=λj=>by unfold Dic.at;rw[getD_some hi]);have hc:E.cst i=l.getD E.nb.length 0:=by unfold Dic.cst;rw[getD_some hi]
  refine Gj (hE.row i l hi) (λj hj=>?_) ?_;{obtain⟨j',hj'⟩:=bL ((hn' _).1 (u7 (d:=0) hj));have:=(AX hE g1 hs' hn' hv hi' hj (bS hj') (by rw[getD_some hj'])).1;rw[<-hat,this];exact Bj g3 hk' i' j'}
  ·rw[<-hc];have hX:=Dic.ext_sat hE λ_=>(0:Rat);have z0:∀ u,u∈E.nb->(E.ext λ_=>(0:Rat)) u=0:=λu hu=>Dic.ext_nb hE _ hu;rw[<-Dic.zero_bs hE z0 hv hX,Dic.zero_bs g1 (λu hu=>z0 u ((hn' u).2 hu)) hi' ((hs'.sat _).1 hX)];unfold Dic.cst;refine lfit.getD ?_ hk' _;rw[wM];cases hj:D'.fs[i']? with
   |none=>exact λc hc=>by cases hc
   |some l=>exact g3.fs l (yE hj)
 ·(have hz':∀ X,E.Sat X->E.val X=D'.val X:=λX hX=>by rw[g5 X ((hs.sat X).2 hX),hz X ((hs.sat X).2 hX)]);obtain⟨h1,h2⟩:=AW hE g1 hs' hz' hn'
  refine Gj hE.ob (λj hj=>?_) ?_;{obtain⟨j',hj'⟩:=bL ((hn' _).1 (u7 (d:=0) hj));rw[h1 j j' hj (bS hj') (by rw[getD_some hj'])];exact g3.ob.getD hk' _};{rw[h2];exact g3.ob.getD hk' _}

def Wr (v:Nat) (nb:List Nat) (l:List Rat):List Nat->Nat->Int->Int
 |[],_,b=>b| y::ys,j,b=>Wr v nb l ys (j+1) (if v<=y/\l.getD j 0<0/\(b<0\/y<nb.getD b.toNat 0) then (j:Int) else b)
def ent (v:Nat) (nb:List Nat) (l:List Rat):Int:=Wr v nb l nb 0 (-1)
def U0 (v e:Nat) (D:Dic):List Nat->Nat->Int->Rat->Int
 |[],_,b,_=>b| y::ys,i,b,q =>
  if v<=y/\D.at i e<0 then
   (if b<0\/D.cst i/(-D.at i e)<q\/(D.cst i/(-D.at i e)=q/\y<D.bs.getD b.toNat 0) then U0 v e D ys (i+1) (i:Int) (D.cst i/(-D.at i e)) else U0 v e D ys (i+1) b q)
  else U0 v e D ys (i+1) b q
def lvR (v e:Nat) (D:Dic):Int:=U0 v e D D.bs 0 (-1) 0
def lP (v e:Nat) (D:Dic):List Nat->Nat->Option Nat
 |[],_=>none| b::bs,i=>if v<=b/\D.at i e≠0 then some i else lP v e D bs (i+1)
def P3 (v e:Nat) (D:Dic) (p:Nat):Dic×Nat :=
 match lP v e D D.bs 0 with
 |some i=>(D.piv i e,p+1)| none=>(D,p)
def rel (v:Nat):List Nat->Nat->Dic×Nat->Dic×Nat
 |[],_,s=>s| y::ys,e,s=>rel v ys (e+1) (if y<v then P3 v e s.1 s.2 else s)
def r8 (v:Nat) (ln:Dic->List Rat):Nat->Dic->Nat->Dic×Nat×Int×Bool
 |0,D,p=>(D,p,-1,decide (p<=65536))| f+1,D,p =>
  if p<=65536 then
   (if ent v D.nb (ln D)<0 then (D,p,-1,true)
   else if lvR v (ent v D.nb (ln D)).toNat D<0 then (D,p,ent v D.nb (ln D),true)
   else r8 v ln f (D.piv (lvR v (ent v D.nb (ln D)).toNat D).toNat (ent v D.nb (ln D)).toNat) (p+1))
  else (D,p,-1,false)
def Rj (x:Nat):List Nat->Nat->Int
 |[],_=>-1| y::ys,i=>if x=y then (i:Int) else Rj x ys (i+1)
def KJ (l:List Nat) (x:Nat):Int:=Rj x l 0
def vio (aux:Nat) (D:Dic):List Rat :=
 if 0<=KJ D.bs aux then D.fs.getD (KJ D.bs aux).toNat [] else (List.replicate (D.nb.length+1) 0).set (KJ D.nb aux).toNat 1
def F5 (v:Nat) (D:Dic):List Nat->Nat->Int->Int
 |[],_,b=>b| y::ys,i,b=>F5 v D ys (i+1) (if v<=y/\D.cst i<0/\(b<0\/D.cst i<D.cst b.toNat) then (i:Int) else b)
def wrs (v:Nat) (D:Dic):Int:=F5 v D D.bs 0 (-1)
def ins (c:Nat) (x:Rat) (l:List Rat):List Rat:=l.take c++x::l.drop c
def NA (v c:Nat):List Nat->List (List Rat)->List (List Rat)
 |b::bs,l::ls=>ins c (if b<v then 0 else 1) l::NA v c bs ls| _,_=>[]
def Dic.aux (D:Dic) (v a:Nat):Dic:=⟨D.bs,D.nb++[a],NA v D.nb.length D.bs D.fs,ins D.nb.length 0 D.ob⟩
def Dic.del (D:Dic) (c:Nat):Dic:=⟨D.bs,D.nb.eraseIdx c,D.fs.map (λl=>l.eraseIdx c),D.ob.eraseIdx c⟩
def M6:List Rat->Nat->Int
 |[],_=>-1| c::cs,j=>if c≠0 then (j:Int) else M6 cs (j+1)
def Qm (v r:Nat) (l:List Rat):List Nat->Nat->List Rat->List Rat
 |[],_,o=>o| y::ys,j,o=>Qm v r l ys (j+1) (if v<=y/\y-v<r then o.set (y-v) (l.getD j 0) else o)
def BD (v r:Nat) (nb:List Nat) (l:List Rat):List Rat:=Qm v r l nb 0 (List.replicate r 0)
def Nq (v r a : Nat) (D : Dic) (p : Nat) : Dic × Nat × Option (List Rat) × Bool :=
  match r8 v (vio a) (65537 - p) D p with
  | (E, q, _, false) => (E, q, none, false)
  | (E, q, _, true) =>
    if 0 < (vio a E).getD E.nb.length 0 then (E, q, some (BD v r E.nb (vio a E)), true)
    else if 0 ≤ KJ E.bs a then
      (let F := E.piv (KJ E.bs a).toNat (M6 ((E.fs.getD (KJ E.bs a).toNat []).take E.nb.length) 0).toNat
       (F.del (KJ F.nb a).toNat, q + 1, none, true))
    else (E.del (KJ E.nb a).toNat, q, none, true)
def Bk (v r:Nat) (D:Dic) (p:Nat):Dic×Nat×Option (List Rat)×Bool :=
 if wrs v D<0 then (D,p,none,true)
 else Nq v r (v+r) ((D.aux v (v+r)).piv (wrs v D).toNat D.nb.length) (p+1)
def XA (v:Nat) (f:Nat->Rat):List Nat->Nat->List Rat->List Rat
 |[],_,x=>x| b::bs,i,x=>XA v f bs (i+1) (if b<v then x.set b (f i) else x)
def pnt (v:Nat) (D:Dic):List Rat:=XA v D.cst D.bs 0 (List.replicate v 0)
def UL (v:Nat) (D:Dic) (e:Nat) (k:Rat):List Rat :=
 XA v (λi=>k*D.at i e) D.bs 0 (if D.nb.getD e 0<v then (List.replicate v 0).set (D.nb.getD e 0) k else List.replicate v 0)
inductive Pvs (D:Dic):Dic->Prop
 |refl:Pvs D D
 |step {E:Dic} {r e:Nat}:Pvs D E->r<E.bs.length->e<E.nb.length->E.at r e≠0->Pvs D (E.piv r e)
section
variable {D E F:Dic}
theorem Pvs.trans (h:Pvs D E)(g:Pvs E F):Pvs D F:=by
 induction g with
 |refl=>exact h| step _ h1 h2 h3 ih=>exact .step ih h1 h2 h3
theorem Dic.piv_bl (D:Dic)(r e:Nat):(D.piv r e).bs.length=D.bs.length:=by unfold Dic.piv;simp
theorem Dic.piv_nl (D:Dic)(r e:Nat):(D.piv r e).nb.length=D.nb.length:=by unfold Dic.piv;simp
theorem Pvs.len (h:Pvs D E):E.bs.length=D.bs.length/\E.nb.length=D.nb.length:=by
 induction h with
 |refl=>exact⟨rfl,rfl⟩| step _ h1 h2 h3 ih=>exact⟨(Dic.piv_bl _ _ _).trans ih.1,(Dic.piv_nl _ _ _).trans ih.2⟩
theorem Pvs.wf (h:Pvs D E)(hw:D.wf):E.wf:=by
 induction h with
 |refl=>exact hw| step _ h1 h2 h3 ih=>exact Dic.piv_wf ih h1 h2
theorem Pvs.same (h:Pvs D E)(hw:D.wf):Same E D:=by
 induction h with
 |refl=>exact .refl _| step g h1 h2 h3 ih=>exact (Dic.piv_same (g.wf hw) h1 h2 h3).trans ih
theorem Pvs.val (h:Pvs D E)(hw:D.wf){X:Nat->Rat}(hX:D.Sat X):E.val X=D.val X:=by
 induction h with
 |refl=>rfl| step g h1 h2 h3 ih=>exact (Dic.piv_val (g.wf hw) h1 h2 h3 (((g.same hw).sat X).2 hX)).trans ih
end
def Mb (v:Nat) (nb:List Nat) (l:List Rat) (j:Nat) (b:Int):Prop :=
 (b<0->∀ i,i<j->v<=nb.getD i 0->¬l.getD i 0<0) /\
 (0<=b->b.toNat<j/\v<=nb.getD b.toNat 0/\l.getD b.toNat 0<0/\∀ i,i<j->v<=nb.getD i 0->l.getD i 0<0->nb.getD b.toNat 0<=nb.getD i 0)
theorem Wq {v:Nat}{nb:List Nat}{l:List Rat}:∀ (ys:List Nat) (j:Nat) (b:Int),nb.drop j=ys->j<=nb.length->Mb v nb l j b->Mb v nb l nb.length (Wr v nb l ys j b)
 |[],j,b,hd,hj,h=>by
  (have:j=nb.length:=by have:=congrArg List.length hd;simp at this;omega);rw[Wr,<-this];exact h
 |y::ys,j,b,hd,hj,h=>by
  (have hlt:j<nb.length:=by have:=congrArg List.length hd;simp at this;omega);have hy:nb[j]?=some y:=by
   (have h1:(nb.drop j)[0]?=some y:=by rw[hd];rfl);rw[d5,tM] at h1
   exact h1
  (have hgy:nb.getD j 0=y:=getD_some hy;have hd':nb.drop (j+1)=ys:=by rw[<-ZZ,hd];rfl);rw[Wr]
  refine Wq ys (j+1) _ hd' hlt ?_;split;{rename_i hc;refine⟨λhb=>absurd hb oM,λ_=>⟨by simp,by rw[uF,hgy];exact hc.1,by rw[uF];exact hc.2.1,λi hi h1 h2=>?_⟩⟩;rw[uF,hgy];by_cases e:i=j;{rw[e,hgy];exact yQ _};{rcases hc.2.2 with hb|hb;{exact absurd h2 (h.1 hb i oM h1)};{by_cases hbn:b<0;{exact absurd h2 (h.1 hbn i oM h1)};{have:=(h.2 oM).2.2.2 i oM h1 h2;omega}}}};{rename_i hc;refine⟨λhb i hi h1 h2=>?_,λhb=>?_⟩;{by_cases e:i=j;{subst e;rw[hgy] at h1;exact hc ⟨h1,h2,.inl hb⟩};{exact h.1 hb i oM h1 h2}};{obtain⟨k1,k2,k3,k4⟩:=h.2 hb;refine⟨by omega,k2,k3,λi hi h1 h2=>?_⟩;by_cases e:i=j;{subst e;rw[hgy] at h1 ⊢;exact Nat.le_of_not_lt λq=>hc ⟨h1,h2,.inr q⟩};{exact k4 i oM h1 h2}}}
theorem K6 (v:Nat)(nb:List Nat)(l:List Rat):Mb v nb l nb.length (ent v nb l) :=
 Wq nb 0 (-1) rfl (xO _) ⟨λ_ i hi=>absurd hi oM,λh=>absurd h (by decide)⟩
def LvP (v e:Nat) (D:Dic) (j:Nat) (b:Int) (q:Rat):Prop :=
 (b<0->∀ i,i<j->v<=D.bs.getD i 0->¬D.at i e<0) /\
 (0<=b->b.toNat<j/\v<=D.bs.getD b.toNat 0/\D.at b.toNat e<0/\q=D.cst b.toNat / -(D.at b.toNat e) /\
  ∀ i,i<j->v<=D.bs.getD i 0->D.at i e<0->q<D.cst i / -(D.at i e)\/(q=D.cst i / -(D.at i e)/\D.bs.getD b.toNat 0<=D.bs.getD i 0))
theorem nS {v e:Nat}{D:Dic}:∀ (ys:List Nat) (j:Nat) (b:Int) (q:Rat),D.bs.drop j=ys->j<=D.bs.length->LvP v e D j b q->∃ q',LvP v e D D.bs.length (U0 v e D ys j b q) q'
 |[],j,b,q,hd,hj,h=>by
  (have:j=D.bs.length:=by have:=congrArg List.length hd;simp at this;omega);rw[U0,<-this];exact⟨q,h⟩
 |y::ys,j,b,q,hd,hj,h=>by
  (have hlt:j<D.bs.length:=by have:=congrArg List.length hd;simp at this;omega);have hy:D.bs[j]?=some y:=by
   (have h1:(D.bs.drop j)[0]?=some y:=by rw[hd];rfl);rw[d5,tM] at h1
   exact h1
  (have hgy:D.bs.getD j 0=y:=getD_some hy;have hd':D.bs.drop (j+1)=ys:=by rw[<-ZZ,hd];rfl);rw[U0]
  split;{rename_i hc;split;{rename_i hs;refine nS ys (j+1) _ _ hd' hlt ⟨λhb=>absurd hb oM,λ_=>⟨by simp,by rw[uF,hgy];exact hc.1,by rw[uF];exact hc.2,by rw[uF],λi hi h1 h2=>?_⟩⟩;rw[uF,hgy];by_cases e':i=j;{rw[e',hgy];exact .inr ⟨rfl,yQ _⟩};{by_cases hbn:b<0;{exact absurd h2 (h.1 hbn i oM h1)};{have hk:=(h.2 oM).2.2.2.2 i oM h1 h2;rcases hs with hs|hs|hs;{omega};{rcases hk with hk|hk;{exact .inl (by grind)};{exact .inl (by grind)}};{rcases hk with hk|hk;{exact .inl (by grind)};{exact .inr ⟨by grind,by have:=hk.2;omega⟩}}}}};{rename_i hs;refine nS ys (j+1) _ _ hd' hlt ⟨λhb=>absurd (.inl hb) hs,λhb=>?_⟩;obtain⟨k1,k2,k3,k4,k5⟩:=h.2 hb;refine⟨by omega,k2,k3,k4,λi hi h1 h2=>?_⟩;by_cases e':i=j;{subst e';rw[hgy];have h3:¬D.cst i / -(D.at i e)<q:=λw=>hs (.inr (.inl w));by_cases h4:q=D.cst i / -(D.at i e);{exact .inr ⟨h4,Nat.le_of_not_lt λw=>hs (.inr (.inr ⟨h4.symm,w⟩))⟩};{exact .inl (by grind)}};{exact k5 i oM h1 h2}}};{rename_i hc;refine nS ys (j+1) _ _ hd' hlt ⟨λhb i hi h1 h2=>?_,λhb=>?_⟩;{by_cases e':i=j;{subst e';rw[hgy] at h1;exact hc ⟨h1,h2⟩};{exact h.1 hb i oM h1 h2}};{obtain⟨k1,k2,k3,k4,k5⟩:=h.2 hb;refine⟨by omega,k2,k3,k4,λi hi h1 h2=>?_⟩;by_cases e':i=j;{subst e';rw[hgy] at h1;exact absurd ⟨h1,h2⟩ hc};{exact k5 i oM h1 h2}}}
theorem Kv (v e:Nat)(D:Dic):∃ q,LvP v e D D.bs.length (lvR v e D) q :=
 nS D.bs 0 (-1) 0 rfl (xO _) ⟨λ_ i hi=>absurd hi oM,λh=>absurd h (by decide)⟩
theorem Gx {v:Nat}{nb:List Nat}{l:List Rat}(h:0<=ent v nb l):(ent v nb l).toNat<nb.length/\v<=nb.getD (ent v nb l).toNat 0/\l.getD (ent v nb l).toNat 0<0:=by have:=(K6 v nb l).2 h;exact⟨this.1,this.2.1,this.2.2.1⟩
theorem Su {v e:Nat}{D:Dic}(h:0<=lvR v e D):(lvR v e D).toNat<D.bs.length/\v<=D.bs.getD (lvR v e D).toNat 0/\D.at (lvR v e D).toNat e<0:=by obtain⟨q,hq⟩:=Kv v e D;have:=hq.2 h;exact⟨this.1,this.2.1,this.2.2.1⟩
theorem BR {v:Nat}{D:Dic}{l:List Rat}(h1:0<=ent v D.nb l)(h2:0<=lvR v (ent v D.nb l).toNat D):BStep (λy=>decide (y<v)) D l (lvR v (ent v D.nb l).toNat D).toNat (ent v D.nb l).toNat:=by obtain⟨a1,a2,a3,a4⟩:=(K6 v D.nb l).2 h1;obtain⟨q,hq⟩:=Kv v (ent v D.nb l).toNat D;obtain⟨b1,b2,b3,b4,b5⟩:=hq.2 h2;refine⟨b1,a1,by simpa using a2,a3,λj hj hf h=>a4 j hj (by simpa using hf) h,by simpa using b2,b3,λi hi hf h=>?_,λi hi hf h he=>?_⟩;{rw[<-b4];rcases b5 i hi (by simpa using hf) h with w|w;{exact T6 w};{rw[w.1];exact Ag}};{rw[<-b4] at he;rcases b5 i hi (by simpa using hf) h with w|w;{rw[he] at w;exact absurd w (Rat.lt_irrefl)};{exact w.2}}

theorem VJ {old:List Rat}{e j:Nat}(hj:j<old.length)(he:e<old.length):(kF old e).getD j 0=if j=e then 1/old.getD e 0 else -(old.getD j 0)/old.getD e 0:=by unfold kF;rw[wM,cZ];by_cases h:e=j;{subst h;rw[if_pos rfl,if_pos (by rw[yH];exact he),if_pos rfl];rfl};{rw[if_neg h,if_neg (λq=>h q.symm),jJ,uW hj];rw[wM (i:=j),uW hj];rfl}
theorem AV {l form:List Rat}{e j:Nat}(hl:l.length=form.length)(hj:j<l.length):(sbs l e form).getD j 0=(if j=e then 0 else l.getD j 0)+l.getD e 0*form.getD j 0:=by unfold sbs;rw[Zc _ _ _ _ (by rw[dV];exact hl)];congr 1;rw[wM,cZ];by_cases h:e=j;{subst h;rw[if_pos rfl,if_pos hj,if_pos rfl];rfl};{rw[if_neg h,if_neg (λq=>h q.symm),wM]}
section
variable {D:Dic} {r e:Nat}
theorem Dic.piv_bs_get (hr:r<D.bs.length){i:Nat}:(D.piv r e).bs.getD i 0=if i=r then D.nb.getD e 0 else D.bs.getD i 0:=by show (D.bs.set r (D.nb.getD e 0)).getD i 0=_;rw[wM,cZ];by_cases h:r=i;{subst h;rw[if_pos rfl,if_pos hr,if_pos rfl];rfl};{rw[if_neg h,if_neg (λq=>h q.symm),wM]}
theorem Dic.piv_nb_get (he:e<D.nb.length){j:Nat}:(D.piv r e).nb.getD j 0=if j=e then D.bs.getD r 0 else D.nb.getD j 0:=by show (D.nb.set e (D.bs.getD r 0)).getD j 0=_;rw[wM,cZ];by_cases h:e=j;{subst h;rw[if_pos rfl,if_pos he,if_pos rfl];rfl};{rw[if_neg h,if_neg (λq=>h q.symm),wM]}
theorem Dic.row_len (h:D.wf){i:Nat}(hi:i<D.bs.length):(D.fs.getD i []).length=D.nb.length+1:=by obtain⟨l,hl⟩:=yZ (l:=D.fs) (i:=i) (by rw[h.len];exact hi);rw[getD_some hl];exact h.row i l hl
theorem Dic.piv_at_r (h:D.wf)(hr:r<D.bs.length)(he:e<D.nb.length){j:Nat}(hj:j<=D.nb.length):(D.piv r e).at r j=if j=e then 1/D.at r e else -(D.at r j)/D.at r e:=by
 have hl:=Dic.row_len h hr;obtain⟨l,hlr⟩:=yZ (l:=D.fs) (i:=r) (by rw[h.len];exact hr);have e1:(D.piv r e).fs.getD r []=kF (D.fs.getD r []) e:=by show (tY r e _ 0 D.fs).getD r []=_;rw[wM,bJ,hlr,wQ];simp
 unfold Dic.at
 rw[e1];exact VJ oM oM
theorem Dic.piv_at (h:D.wf)(hr:r<D.bs.length)(he:e<D.nb.length){i j:Nat}(hi:i<D.bs.length)(hir:i≠r)(hj:j<=D.nb.length):(D.piv r e).at i j=(if j=e then 0 else D.at i j)+D.at i e*(if j=e then 1/D.at r e else -(D.at r j)/D.at r e):=by
 have hl:=Dic.row_len h hr;have hli:=Dic.row_len h hi;obtain⟨l,hlr⟩:=yZ (l:=D.fs) (i:=i) (by rw[h.len];exact hi);have e1:(D.piv r e).fs.getD i []=sbs (D.fs.getD i []) e (kF (D.fs.getD r []) e):=by show (tY r e _ 0 D.fs).getD i []=_;rw[wM,bJ,hlr,wQ,getD_some hlr];simp[hir]
 unfold Dic.at
 rw[e1,AV (by rw[r6];omega) oM,VJ oM oM]
end
def Dic.rel0 (v m:Nat) (D:Dic):Prop:=∀ e,e<m->e<D.nb.length->D.nb.getD e 0<v->∀ i,i<D.bs.length->v<=D.bs.getD i 0->D.at i e=0
theorem Dic.rel0_piv {v m r e:Nat}{D:Dic}(h:D.wf)(hr:r<D.bs.length)(he:e<D.nb.length)(hrv:v<=D.bs.getD r 0)(h0:D.rel0 v m):(D.piv r e).rel0 v m:=by intro j hjm hj hjv i hi hiv;rw[Dic.piv_nl] at hj;rw[Dic.piv_bl] at hi;rw[Dic.piv_nb_get he] at hjv;rw[Dic.piv_bs_get hr] at hiv;by_cases hje:j=e;{rw[if_pos hje] at hjv;omega};{rw[if_neg hje] at hjv;have hrj:=h0 j hjm hj hjv r hr hrv;by_cases hir:i=r;{subst hir;rw[Dic.piv_at_r h hr he oM,if_neg hje,hrj,Hz,i5,Hy]};{rw[if_neg hir] at hiv;rw[Dic.piv_at h hr he hi hir oM,if_neg hje,if_neg hje,hrj,h0 j hjm hj hjv i hi hiv,Hz,i5,Hy,Af,Ae]}}
theorem Xz {v e:Nat}{D:Dic}:∀ {bs:List Nat} {i:Nat},D.bs.drop i=bs->lP v e D bs i=none->∀ k,i<=k->k<D.bs.length->v<=D.bs.getD k 0->D.at k e=0
 |[],i,hd,h,k,hik,hk,hv=>by have:=congrArg List.length hd;simp at this;omega| b::bs,i,hd,h,k,hik,hk,hv=>by
  rw[lP] at h;have hb:D.bs[i]?=some b:=by
   (have h1:(D.bs.drop i)[0]?=some b:=by rw[hd];rfl);rw[d5,tM] at h1
   exact h1
  split at h;{cases h};{rename_i hc;by_cases hki:k=i;{subst hki;rw[getD_some hb] at hv;exact QF λq=>hc ⟨hv,q⟩};{exact Xz (by rw[<-ZZ,hd];rfl) h k oM hk hv}}
theorem Xy {v e:Nat}{D:Dic}:∀ {bs:List Nat} {i k:Nat},D.bs.drop i=bs->lP v e D bs i=some k->k<D.bs.length/\v<=D.bs.getD k 0/\D.at k e≠0
 |[],i,k,hd,h=>by cases h
 |b::bs,i,k,hd,h=>by
  rw[lP] at h;have hb:D.bs[i]?=some b:=by
   (have h1:(D.bs.drop i)[0]?=some b:=by rw[hd];rfl);rw[d5,tM] at h1
   exact h1
  split at h;{rename_i hc;cases h;exact⟨bS hb,by rw[getD_some hb];exact hc.1,hc.2⟩};{exact Xy (by rw[<-ZZ,hd];rfl) h}
theorem oB {v:Nat}{D:Dic}(hw:D.wf):∀ (ys:List Nat) (e:Nat) (s:Dic×Nat),s.1.nb.drop e=ys->e<=s.1.nb.length->Pvs D s.1->s.1.rel0 v e ->Pvs D (rel v ys e s).1/\(rel v ys e s).1.rel0 v s.1.nb.length/\(rel v ys e s).2<=s.2+ys.length
 |[],e,s,hd,he,hp,h0=>by
  (have:e=s.1.nb.length:=by have:=congrArg List.length hd;simp at this;omega);rw[rel,<-this];exact⟨hp,h0,by simp⟩
 |y::ys,e,s,hd,he,hp,h0=>by
  (have hlt:e<s.1.nb.length:=by have:=congrArg List.length hd;simp at this;omega);have hy:s.1.nb[e]?=some y:=by
   (have h1:(s.1.nb.drop e)[0]?=some y:=by rw[hd];rfl);rw[d5,tM] at h1
   exact h1
  (have hd':s.1.nb.drop (e+1)=ys:=by rw[<-ZZ,hd];rfl);have hw':=hp.wf hw
  rw[rel];split
  ·rename_i hyv;unfold P3;split
   ·rename_i i hi;obtain⟨k1,k2,k3⟩:=Xy (bs:=s.1.bs) (i:=0) rfl hi;have hp':Pvs D (s.1.piv i e):=.step hp k1 hlt k3;have h0':=Dic.rel0_piv hw' k1 hlt k2 h0;have ih:=oB hw ys (e+1) (s.1.piv i e,s.2+1) (by
     show (s.1.nb.set e _).drop (e+1)=ys;rw[<-hd'];apply WZ;intro j;rw[d5,d5,T5 oM]) (by show e+1<=(s.1.piv i e).nb.length;rw[Dic.piv_nl];exact hlt) hp' (by
     intro j hj hjl hjv k hk hkv;by_cases hje:j=e;{have h2:(s.1.piv i e).nb.getD j 0<v:=hjv;rw[Dic.piv_nb_get hlt,if_pos hje] at h2;omega}
     ·exact h0' j oM hjl hjv k hk hkv)
    have hl:(s.1.piv i e).nb.length=s.1.nb.length:=Dic.piv_nl _ _ _;refine⟨ih.1,by rw[<-hl];exact ih.2.1,?_⟩;have:=ih.2.2;simp only[fH] at this ⊢;omega
   ·rename_i hi;have ih:=oB hw ys (e+1) (s.1,s.2) hd' hlt hp (by
     intro j hj hjl hjv k hk hkv;by_cases hje:j=e;{subst hje;exact Xz (bs:=s.1.bs) (i:=0) rfl hi k (xO _) hk hkv}
     ·exact h0 j oM hjl hjv k hk hkv)
    refine⟨ih.1,ih.2.1,?_⟩;have:=ih.2.2;simp only[fH] at this ⊢;omega
  ·rename_i hyv;have ih:=oB hw ys (e+1) s hd' hlt hp (by
    intro j hj hjl hjv k hk hkv;by_cases hje:j=e;{subst hje;rw[getD_some hy] at hjv;exact absurd hjv hyv}
    ·exact h0 j oM hjl hjv k hk hkv)
   refine⟨ih.1,ih.2.1,?_⟩;have:=ih.2.2;simp only[fH] at this ⊢;omega

def WrP (v:Nat) (D:Dic) (j:Nat) (b:Int):Prop :=
 (b<0->∀ i,i<j->v<=D.bs.getD i 0->¬D.cst i<0) /\
 (0<=b->b.toNat<j/\v<=D.bs.getD b.toNat 0/\D.cst b.toNat<0/\∀ i,i<j->v<=D.bs.getD i 0->D.cst i<0->D.cst b.toNat<=D.cst i)
theorem Vo {v:Nat}{D:Dic}:∀ (ys:List Nat) (j:Nat) (b:Int),D.bs.drop j=ys->j<=D.bs.length->WrP v D j b->WrP v D D.bs.length (F5 v D ys j b)
 |[],j,b,hd,hj,h=>by
  (have:j=D.bs.length:=by have:=congrArg List.length hd;simp at this;omega);rw[F5,<-this];exact h
 |y::ys,j,b,hd,hj,h=>by
  (have hlt:j<D.bs.length:=by have:=congrArg List.length hd;simp at this;omega);have hy:D.bs[j]?=some y:=by
   (have h1:(D.bs.drop j)[0]?=some y:=by rw[hd];rfl);rw[d5,tM] at h1
   exact h1
  (have hgy:D.bs.getD j 0=y:=getD_some hy;have hd':D.bs.drop (j+1)=ys:=by rw[<-ZZ,hd];rfl);rw[F5]
  refine Vo ys (j+1) _ hd' hlt ?_;split;{rename_i hc;refine⟨λhb=>absurd hb oM,λ_=>⟨by simp,by rw[uF,hgy];exact hc.1,by rw[uF];exact hc.2.1,λi hi h1 h2=>?_⟩⟩;rw[uF];by_cases e:i=j;{rw[e];exact Ag};{rcases hc.2.2 with hb|hb;{exact absurd h2 (h.1 hb i oM h1)};{by_cases hbn:b<0;{exact absurd h2 (h.1 hbn i oM h1)};{have:=(h.2 oM).2.2.2 i oM h1 h2;grind}}}};{rename_i hc;refine⟨λhb i hi h1 h2=>?_,λhb=>?_⟩;{by_cases e:i=j;{subst e;rw[hgy] at h1;exact hc ⟨h1,h2,.inl hb⟩};{exact h.1 hb i oM h1 h2}};{obtain⟨k1,k2,k3,k4⟩:=h.2 hb;refine⟨by omega,k2,k3,λi hi h1 h2=>?_⟩;by_cases e:i=j;{subst e;rw[hgy] at h1;exact Rat.not_lt.1 λq=>hc ⟨h1,h2,.inr q⟩};{exact k4 i oM h1 h2}}}
theorem F4 (v:Nat)(D:Dic):WrP v D D.bs.length (wrs v D) :=
 Vo D.bs 0 (-1) rfl (xO _) ⟨λ_ i hi=>absurd hi oM,λh=>absurd h (by decide)⟩
theorem Ks {v:Nat}{ln:Dic->List Rat}:∀ (f:Nat) (D:Dic) (p:Nat),Pvs D (r8 v ln f D p).1/\(p<=65537->(r8 v ln f D p).2.1<=65537)
 |0,D,p=>⟨.refl,λh=>h⟩| f+1,D,p=>by
  rw[r8];split
  ·rename_i hq;split;{exact⟨.refl,λh=>h⟩}
   ·rename_i h1;split;{exact⟨.refl,λh=>h⟩}
    ·(rename_i h2;have hs:=BR (v:=v) (D:=D) (l:=ln D) oM oM;have hne:D.at (lvR v (ent v D.nb (ln D)).toNat D).toNat (ent v D.nb (ln D)).toNat≠0:=by have:=hs.rneg;grind);have ih:=Ks (v:=v) (ln:=ln) f (D.piv (lvR v (ent v D.nb (ln D)).toNat D).toNat (ent v D.nb (ln D)).toNat) (p+1)
     exact⟨(Pvs.step .refl hs.hr hs.he hne).trans ih.1,λ_=>ih.2 oM⟩
  {exact⟨.refl,λh=>h⟩}
structure SolR where
 st:Nat
 val:Rat
 pt:List Rat
 du:List Rat
 ry:List Rat
 bas:List Nat
 pv:Nat
def Wc (v:Nat) (ob:List Rat):List Nat->Nat->Option Nat
 |[],_=>none| y::ys,e=>if y<v/\ob.getD e 0≠0 then some e else Wc v ob ys (e+1)
def JK (v r:Nat) (D0:Dic):Option SolR :=
 match Bk v r (rel v D0.nb 0 (D0,0)).1 (rel v D0.nb 0 (D0,0)).2 with
 |(_,_,_,false)=>none| (_,q,some l,true)=>some ⟨2,0,[],l,[],[],q⟩| (E,q,none,true) =>
  match Wc v E.ob E.nb 0 with
  |some e=>some ⟨3,0,pnt v E,[],UL v E e (((-(yG (E.ob.getD e 0)):Int):Rat)),[],q⟩| none =>
   match r8 v Dic.ob (65537-q) E q with
   |(_,_,_,false)=>none| (F,q',e,true)=>if 0<=e then some ⟨3,0,pnt v F,[],UL v F e.toNat 1,[],q'⟩ else some ⟨1,F.ob.getD F.nb.length 0,pnt v F,BD v r F.nb F.ob,[],F.bs,q'⟩
def kM (v:Nat) (rows:List (List Rat)) (ob:List Rat):Dic:=⟨(List.range rows.length).map (v+·),List.range v,rows,ob⟩
theorem QX {v:Nat}{rows:List (List Rat)}{ob:List Rat}(hr:∀ l,l∈rows->l.length=v+1)(ho:ob.length=v+1):(kM v rows ob).wf where
 len:=by simp[kM]
 row i l hl:=by rw[hr l (yE hl)];simp[kM]
 ob:=by rw[show (kM v rows ob).ob=ob from rfl,ho];simp[kM]
 nd:=by show ((List.range rows.length).map (v+·)++List.range v).Nodup;rw[l9];refine⟨List.Pairwise.map _ (λa b (h:a≠b)=>(by omega:v+a≠v+b)) List.nodup_range,List.nodup_range,λx hx y hy e=>?_⟩;obtain⟨k,_,rfl⟩:=y9.1 hx;have:=sZ.1 hy;omega
def atX (v:Nat) (x:Nat->Rat) (l:List Rat):Rat:=dot x (List.range v) l
def full (v:Nat) (rows:List (List Rat)) (x:Nat->Rat):Nat->Rat:=λy=>if y<v then x y else atX v x (rows.getD (y-v) [])
theorem P4 (x y:R):mkRat (sgn (x.neg != y.neg) (val x.num*y.d)) (x.d*val y.num)=x.q/y.q:=by rw[i5,R.q,R.q,<-nE,<-nE,<-nE,Rat.inv_divInt,Rat.divInt_mul_divInt];unfold R.n sgn;cases x.neg <;> cases y.neg <;> simp[Rat.divInt_neg',Int.neg_mul,Int.mul_neg]
theorem sA {q:Rat}:yG q=0↔q=0:=by unfold yG;split <;> (try split) <;> constructor <;> grind
theorem S8 (x:R)(hx:x.sz (2^36)):zH 239 [rv x] (rv (zK (-x.q))):=by refine sF Tryz.f239 ?_;have cc:=Fh ⟨!x.neg,x.num,x.den⟩ ⟨hx.n,hx.d⟩;rw[H7] at cc;generalize zK (-x.q)=W at *;obtain⟨a,b,c⟩:=x;generalize hna:(!a)=na at *;cbv;refine xI rfl (by exact⟨⟨vW hna.symm,lR,lR,trivial⟩,trivial⟩) cc rfl ?_;cbv;exact rA
theorem DV (x y:R)(hx:x.sz (2^34))(hy:y.sz (2^34))(h0:y.q≠0):zH 238 [rv x,rv y] (.tup [rv (zK (x.q/y.q)),iV 0]):=by
 refine sF Tryz.f238 ?_;have h1:=hx.n;have h2:=hx.d;have h3:=hy.n;have h4:=hy.d;have h7:=jE x.den;have h8:=jE y.den;have hyn:val y.num≠0:=λh=>h0 (by
  (have:y.n=0:=by unfold R.n;rw[h];simp[sgn]);rw[R.q,this];simp)
 have csg:=s86 y oM;have hsg:¬yG y.q=0:=λh=>h0 (sA.1 h);have cux:=UD x oM;have cuy:=UD y oM;have cm:=Fg (xU x.den) y.num oM oM;have hml:=jY (xU x.den) y.num;rw[kE] at cm hml;have cn:=Fg x.num (xU y.den) oM oM;have hnl:=jY x.num (xU y.den);rw[kE] at cn hnl;have cq:=D9 (x.neg != y.neg) (zL (val x.num*y.d)) (zL (x.d*val y.num)) oM oM (by rw[zQ];exact Z0 x.d_ne hyn);rw[zQ,zQ,P4] at cq;have hb:(x.neg != y.neg)=!decide (x.neg=y.neg):=by cases x.neg <;> cases y.neg <;> rfl
 clear hml hnl hx hy h0;generalize zK (x.q/y.q)=W at *;generalize yG y.q=sg at *;generalize zL (x.d*val y.num)=M at *;generalize zL (val x.num*y.d)=P at *;generalize xU x.den=ux at *;generalize xU y.den=uy at *;obtain⟨a,b,c⟩:=x;obtain⟨a',b',c'⟩:=y;simp only at *;generalize (a != a')=nb at *;cbv;refine cA csg ?_;cbv;refine yA hsg ?_;cbv;refine zP 16 (by cbv) ?_;cbv;refine dA cuy ?_;cbv;refine dA cn ?_;cbv;refine dA cux ?_;cbv;refine dA cm ?_;cbv;refine wK (by exact⟨vW hb,lR,lR,trivial⟩) cq rfl ?_;cbv;exact rA
def cq (q:Rat):List PV:=[zM ((zK q).neg),nat (zK q).num,nat (zK q).den]
def ci (n:Nat):List PV:=[iV n]
def tO (v r : Nat) (D : Dic) (p : Nat) : List (Nat × Obj') :=
  [(1000000, .box [iV v, iV r, zT 1000001 1 D.bs.length, zT 1000002 1 D.nb.length, zT 1000003 1 D.fs.length, zT 1000004 3 D.ob.length, iV p]),
   (1000001, zW 1 (enc ci D.bs)), (1000002, zW 1 (enc ci D.nb)), (1000003, .mat 3 (fun _ => D.fs.map (enc cq)) []), (1000004, zW 3 (enc cq D.ob))]
theorem tX {rs:List ResultVar}{r:PV}{ps ps':PS}{kept:List (Nat×Obj')}(hw:Wk ps ps')(h3:lv r=true)(h4:uA id ps'.objs kept)(h5:ndO (yC id kept)=true)(h6:ZJ id kept)(h:match dW ps' rs with
  |some l=>les (mM l) (ren id r)| none=>False):RetOk rs r kept [] ps:=by
 cases h1:dW ps' rs with
 |none=>rw[h1] at h;exact h.elim| some l=>rw[h1] at h;exact⟨ps',l,id,hw,h1,cO h,h3,by rw[vM];exact h4,by rw[vM];exact h5,h6⟩
theorem C4:Pg.funcs[167]?=some Tryz.f167:=by rw[vI];rfl
theorem b9 (v r:Nat)(D:Dic)(p:Nat)(x:Nat):Sound 167 [.ptr 1000000 0,iV x] (tO v r D p) [] (zM (decide ((x:Int)<(v:Int)))) (tO v r D p) []:=by refine xB C4 rfl rfl rfl rfl rfl ?_;cbv;refine tX (.refl _) rfl okR (by rfl) okR ?_;exact lR
end Go.Proofs.YtboocdbmnfjomaaGreat
