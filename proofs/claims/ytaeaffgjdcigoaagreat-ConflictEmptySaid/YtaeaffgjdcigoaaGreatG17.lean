/- A part of the proof: NtI, NtJ, PnC, IgA, RqA. -/
import Derived.Test.YtaeaffgjdcigoaaGreatG16
import Derived.Test.YtaeaffgjdcigoaaGreatG14
set_option linter.all false
namespace Go.Proofs.YtaeaffgjdcigoaaGreat
open Go
set_option maxRecDepth 100000
def bS {g:Operand}{as_:List Operand}{dst:Option Nat}{ps ps':PS}{K:PS->Prop}{f:FuncId}{caps cargs:List PV}{kept eaten:List (Nat×Obj')}{r:PV}{kept' made:List (Nat×Obj')}(hn:Nat->Nat)(hw:Wk ps ps') (h1:ev (zF ps'.tmps) g=.fn f caps) (h2:jA les (evs (ev (zF ps'.tmps)) as_++caps) (oW hn cargs)) (h3:Sound f cargs kept eaten r kept' made) (h4:uU hn ps'.objs (kept++eaten)) (h5:ndO (z9 hn (kept++eaten))=true) (h5':ndO (kept++eaten)=true) (h6:bM (sO (kept'++made)) (kept'++made)=true) (h7:ndO (z9 hn made)=true) (h8:aI hn (rZ hn eaten ps') made=true) (h9:yS lv cargs=true) (h10:lv r=true) (h11:nmIn (sO (kept'++made)) r=true) (h12:K (put (aA hn eaten kept' made ps') dst (ren hn r))):CallOk g as_ dst ps K :=
 ⟨ps',hw,f,caps,h1,.inr ⟨hn,cargs,kept,eaten,r,kept',made,lP h2,h3,h4,h5,h5',h6,h7,h8,h9,h10,h11,h12⟩⟩
def kA {g:Operand}{as_:List Operand}{dst:Option Nat}{ps:PS}{K:PS->Prop}{f:FuncId}{caps cargs:List PV}{kept eaten:List (Nat×Obj')}{r:PV}{kept' made:List (Nat×Obj')}(hn:Nat->Nat)(h3:Sound f cargs kept eaten r kept' made)(h12:K (put (aA hn eaten kept' made ps) dst (ren hn r)))(h1:ev (zF ps.tmps) g=.fn f caps:=by exact rfl)(h2:jA les (evs (ev (zF ps.tmps)) as_++caps) (oW hn cargs):=by exact okA)(h4:uU hn ps.objs (kept++eaten):=by exact okR)(h5:ndO (z9 hn (kept++eaten))=true:=by exact rfl)(h5':ndO (kept++eaten)=true:=by exact rfl)(h6:bM (sO (kept'++made)) (kept'++made)=true:=by exact rfl)(h7:ndO (z9 hn made)=true:=by exact rfl)(h8:aI hn (rZ hn eaten ps) made=true:=by exact rfl)(h9:yS lv cargs=true:=by exact rfl)(h10:lv r=true:=by exact rfl)(h11:nmIn (sO (kept'++made)) r=true:=by exact rfl):CallOk g as_ dst ps K:=bS hn (.refl _) h1 h2 h3 h4 h5 h5' h6 h7 h8 h9 h10 h11 h12
def kW {g:Operand}{as_:List Operand}{dst:Option Nat}{ps ps':PS}{K:PS->Prop}{f:FuncId}{caps cargs:List PV}{kept eaten:List (Nat×Obj')}{r:PV}{kept' made:List (Nat×Obj')}(hn:Nat->Nat)(hw:Wk ps ps')(h3:Sound f cargs kept eaten r kept' made)(h12:K (put (aA hn eaten kept' made ps') dst (ren hn r)))(h1:ev (zF ps'.tmps) g=.fn f caps:=by exact rfl)(h2:jA les (evs (ev (zF ps'.tmps)) as_++caps) (oW hn cargs):=by exact okA)(h4:uU hn ps'.objs (kept++eaten):=by exact okR)(h5:ndO (z9 hn (kept++eaten))=true:=by exact rfl)(h5':ndO (kept++eaten)=true:=by exact rfl)(h6:bM (sO (kept'++made)) (kept'++made)=true:=by exact rfl)(h7:ndO (z9 hn made)=true:=by exact rfl)(h8:aI hn (rZ hn eaten ps') made=true:=by exact rfl)(h9:yS lv cargs=true:=by exact rfl)(h10:lv r=true:=by exact rfl)(h11:nmIn (sO (kept'++made)) r=true:=by exact rfl):CallOk g as_ dst ps K:=bS hn hw h1 h2 h3 h4 h5 h5' h6 h7 h8 h9 h10 h11 h12
def kB {g:Operand}{as_:List Operand}{dst:Option Nat}{ps ps':PS}{K:PS->Prop}{f:FuncId}{caps cargs:List PV}{kept eaten:List (Nat×Obj')}{r:PV}{kept' made:List (Nat×Obj')}(hn:Nat->Nat)(hw:Wk ps ps')(h2:jA les (evs (ev (zF ps'.tmps)) as_++caps) (oW hn cargs))(h3:Sound f cargs kept eaten r kept' made)(h12:K (put (aA hn eaten kept' made ps') dst (ren hn r)))(h1:ev (zF ps'.tmps) g=.fn f caps:=by exact rfl)(h4:uU hn ps'.objs (kept++eaten):=by exact okR)(h5:ndO (z9 hn (kept++eaten))=true:=by exact rfl)(h5':ndO (kept++eaten)=true:=by exact rfl)(h6:bM (sO (kept'++made)) (kept'++made)=true:=by exact rfl)(h7:ndO (z9 hn made)=true:=by exact rfl)(h8:aI hn (rZ hn eaten ps') made=true:=by exact rfl)(h9:yS lv cargs=true:=by exact rfl)(h10:lv r=true:=by exact rfl)(h11:nmIn (sO (kept'++made)) r=true:=by exact rfl):CallOk g as_ dst ps K:=bS hn hw h1 h2 h3 h4 h5 h5' h6 h7 h8 h9 h10 h11 h12
def Yg:∀ (n x:Nat),x<=n->x<4294967296->x<2^Lib.bitLen x
 |0,x,h,_=>by
  (have:x=0:=by omega);subst this
  exact Vk _
 |n+1,x,h,hx=>by rcases Vl x with e|e;{subst e;exact Vk _};{rw[Lib.bitLen_half x oM oM,YK,uC];have:=Yg n (x/2) oM oM;omega}
def Cb {x:Nat}(h:x≠0)(hx:x<4294967296):2^(Lib.bitLen x-1)<=x:=by rcases qW x (2^(Lib.bitLen x-1)) with h1|h1;{have h2:=Lib.bitLen_le x (Lib.bitLen x-1) (by grind [d7]) h1;grind};omega
def H1 {x:Nat}(h:x≠0)(hx:x<4294967296):32-Lib.bitLen x<32/\2147483648<=x*2^(32-Lib.bitLen x)/\x*2^(32-Lib.bitLen x)<4294967296:=by have h1:=Cb h hx;have h2:=Yg x x (yD _) hx;have h3:=d7 hx;have h4:=Vb h hx;generalize Lib.bitLen x=k at *;refine⟨by omega,?_,?_⟩;{have h5:=jC (2^(32-k)) h1;rw[<-bJ] at h5;grind};{have h5:=eX h2 (Vk (32-k));rw[<-bJ] at h5;grind}
def L4:Pg.funcs[286]?=some Tryz.f286:=by rw[uZ];rfl
def TY {p:List UInt32}(hc:bH p=true){n:Nat}(hl:p.length=n+1):B^n<=val p:=by
 have hne:p≠[]:=λe=>by grind
 have h1:=tX hne;rw[hc] at h1;have h2:(p.getD n 0).toNat≠0:=by
  (intro e;have:p.getD (p.length-1) 0=0:=by rw[hl];exact ZD.1 e);grind
 have h3:=z6 p n;rw[yW oM] at h3;have:=vQ (B^n) (show 1<=(p.getD n 0).toNat by omega);omega
structure DivInv (A V N M:Nat) (k:Nat) (u out:List UInt32):Prop where
 kle:k<=M
 lu:u.length=N
 lo:out.length=M
 lt:val (u.drop k)<V
 eq:val u+V*(B^k*val (out.drop k))=A
def AJ {A V N M i n q:Nat}{u out:List UInt32}(h:DivInv A V N M (i+1) u out)(hV:V<B^(n+2))(h0:0<V)(hN:i+n+3<=N):let x:=(u.drop i).take (n+3)
  let pre:=u.take i
  let post:=u.drop (i+(n+3))
  u=pre++(x++post)/\x.length=n+3/\pre.length=i/\val x<B*V/\(q=val x/V->q<B/\DivInv A V N M i (pre++(pad (val x-q*V) (n+3)++post)) (out.set i (UInt32.ofNat q))):=by
 intro x pre post;have hlu:=h.lu;have e1:x++post=u.drop i:=by show (u.drop i).take (n+3)++u.drop (i+(n+3))=u.drop i;rw[<-Vy,Sd]
 have e0:u=pre++(x++post):=by grind [List.take_append_drop]
 have hxl:x.length=n+3:=by show ((u.drop i).take (n+3)).length=_;rw[kV,Vx];omega
 have hpl:pre.length=i:=by grind
 have hpost:val post=0:=by have h2:=Xf (l:=u.drop (i+1)) (n+2) (by rw[Vx];omega) (fJ h.lt hV);grind [List.drop_drop]
 have hdi:val (u.drop i)=val x:=by grind [vL]
 have hxv:val x<B*V:=by have h3:=kO (l:=u) (i:=i) oM;have h4:=yM (u.getD i 0);have h5:=vQ B (show val (u.drop (i+1))+1<=V from h.lt);grind
 refine⟨e0,hxl,hpl,hxv,λhq=>?_⟩;obtain⟨r1,r2,r3⟩:=D7 (pre:=pre) (x:=x) (post:=post) (V:=V) (n:=n+2) hxl hpost (by grind) hV h0 hq;have r3:val (pre++(pad (val x-q*V) (n+3)++post))+V*(B^pre.length*q)=val (pre++(x++post)):=r3;have hk:=h.kle;have hlo:=h.lo;refine⟨r1,by omega,?_,by grind,?_,?_⟩
 ·(have hpad:(pad (val x-q*V) (n+3)).length=n+3:=by refine sJ (xF (Nat.sub_le _ _) ?_);grind [x5]);grind
 {grind};{have h6:=h.eq;grind [oB,xY,Nat.mod_eq_of_lt]}
def Rq (a b:List UInt32)(ha:a.length<2^39)(hb:b.length<2^39)(h0:val b≠0):zD 286 [nat a,nat b] (.tup [nat (zJ (val a/val b)),nat (zJ (val a%val b)),iV 0]):=by
 refine aW L4 rfl rfl rfl rfl rfl ?_;have ha':=xF (z7 a) ha;have hb':=xF (z7 b) hb;have hB:B=4294967296:=rfl;cbv;refine cA (b9 a oM) ?_;cbv;refine cA (b9 b oM) ?_;have hva:val (zJ (val a))=val a:=zR _;have hvb:val (zJ (val b))=val b:=zR _;have hca:=rQ (val a);have hcb:=rQ (val b);have hqne:(zJ (val b)).length≠0:=λe=>h0 (wA.1 (j3 e));have hlen:¬val a<val b->(zJ (val b)).length<=(zJ (val a)).length:=by intro h;rcases qW (zJ (val a)).length (zJ (val b)).length with h1|h1;{exact absurd (Zx h1) h};omega
 generalize zJ (val a)=p at *;generalize zJ (val b)=q at *;cbv;refine zE (λh=>absurd (show q.length=0 by (try dsimp only [zY] at *);grind [zI]) hqne) (λh=>?_);cbv;refine cA (HL p q oM oM) ?_;rw[hva,hvb];have hcmp:qQ (val a) (val b)<0↔val a<val b:=by grind [qQ]
 generalize qQ (val a) (val b)=cm at *;cbv;refine zE (λh1=>?_) (λh1=>?_);{have hlt:=hcmp.1 h1;cbv;refine cA (C1 p oM) ?_;cbv;refine j7 rfl ?_ rfl;refine⟨yX ?_,zS ?_,lR,trivial⟩;{rw[Hd hlt,y4];rfl};{rw[hva,qY hlt]}}
 ·have hge:¬val a<val b:=λe=>h1 (hcmp.2 e);have hlpq:=hlen hge;cbv;refine zE (λh2=>?_) (λh2=>?_)
  ·(have hq1:q.length=1:=by (try dsimp only [zY] at *);grind [zI]);cbv
   (refine xG 0 rfl oM ?_;cbv;have hvq:val b=(q.getD 0 0).toNat:=by have:=z6 q 0;grind [val]);refine cA (Oy p (q.getD 0 0).toNat oM (yM _) oM) ?_;cbv;refine j7 rfl ?_ rfl;exact⟨zS (by grind),zS (by grind),lR,trivial⟩
  ·(have hq2:q.length≠1:=by (try dsimp only [zY] at *);grind [zI]);obtain⟨n,hn⟩:∃ n,q.length=n+2:=⟨q.length-2,by omega⟩
   have htl:(q.getD (n+1) 0).toNat≠0:=by
    (intro e;have h3:=tX (l:=q) (λe=>by grind);have:q.getD (q.length-1) 0=0:=by rw[hn];exact ZD.1 e);grind
   (obtain⟨hs1,hs2,hs3⟩:=H1 htl (yM (q.getD (n+1) 0));have hbl:=d7 (yM (q.getD (n+1) 0));cbv;refine⟨zC om om,xG (n+1) om om ?_⟩;cbv;refine cA (Ox (q.getD (n+1) 0).toNat (yM _)) ?_;have hsi:(32:Int)-((Lib.bitLen (q.getD (n+1) 0).toNat:Nat):Int)=((32-Lib.bitLen (q.getD (n+1) 0).toNat:Nat):Int):=by omega);rw[hsi]
   generalize hsd:32-Lib.bitLen (q.getD (n+1) 0).toNat=s at *;cbv;refine kA (λ_=>55) (Ln p s oM hs1) ?_;cbv;refine kA (λ_=>58) (Ln q s oM hs1) ?_;cbv
   
   have hVlt:val q*2^s<B^(n+2):=by
    have h3:=z6 q (n+1);have h4:=w5 q (n+1);rw[yW oM] at h3;rw[h3,gI,gF,show B^(n+2)=B^(n+1)*B from uC _ _];have h5:=eX h4 (Vk s);have h6:(q.getD (n+1) 0).toNat*2^s+2^s<=B:=by
     (obtain⟨z,hz⟩:2^s ∣ B:=⟨2^(32-s),by rw[<-bJ];grind⟩;rw[hz,qX _ (2^s),<-Yl];refine vQ _ ?_;have:2^s*(q.getD (n+1) 0).toNat<2^s*z:=by grind);exact Nat.lt_of_mul_lt_mul_left this
    have h7:=vQ (B^(n+1)) h6;rw[qO] at h7;omega
   have hqge:=TY hcb (n:=n+1) hn;have hVge:B^(n+1)*2^s<=val q*2^s:=jC _ hqge;have hVtop:B^(n+1)*2147483648<=val q*2^s:=by have h3:=z6 q (n+1);rw[yW oM] at h3;rw[h3,gI,gF];have:=vQ (B^(n+1)) hs2;omega
   (have hp2:=Vk s;have hBn:=Nat.pow_pos (n:=n+1) w8;have hV0:0<val q*2^s:=by omega);have hvl:(zJ (val q*2^s)).length=n+2:=by have h3:=yF hVlt;have h4:=YQ (n:=val q*2^s) (k:=n+1) oM;omega
   have hvv:=zR (val q*2^s);have hpl:=x5 p;have hA0:val ((pad (val p*2^s) (p.length+1)).drop (p.length-q.length+1))<val q*2^s:=by
    have hpx:val p*2^s<B^(p.length+1):=by rw[uC];refine uR (eX hpl hp2) (vQ _ ?_);exact ZC (p8 (show 1<2 by omega) hs1)
    (have h3:=oC (l:=pad (val p*2^s) (p.length+1)) (p.length-q.length+1) (by grind [sJ]);rw[oA] at h3;have h4:B^p.length=B^(p.length-q.length+1)*B^(n+1):=by rw[<-bJ];congr 1;omega);have h5:B^(p.length-q.length+1)*val ((pad (val p*2^s) (p.length+1)).drop (p.length-q.length+1))<B^(p.length-q.length+1)*(B^(n+1)*2^s):=by rw[<-gF,<-h4];have:=eX hpl hp2;omega
    have:=Nat.lt_of_mul_lt_mul_left h5;omega
   (have hpadl:(pad (val p*2^s) (p.length+1)).length=p.length+1:=by refine sJ ?_;rw[uC];refine uR (eX hpl hp2) (vQ _ ?_);exact ZC (p8 (show 1<2 by omega) hs1));have hpadv:=oA (val p*2^s) (p.length+1);have hfrz:((lm (pad (val q*2^s) (q.length+1))).drop 0).take (q.length+1)=lm (pad (val q*2^s) (q.length+1)):=by rw[xM];refine yW ?_;rw[zI,sJ (fJ hVlt (by rw[hn];exact p8 (by decide) oM))];omega
   have hpql:(pad (val q*2^s) (q.length+1)).length=q.length+1 :=
    sJ (fJ hVlt (by rw[hn];exact p8 (by decide) oM))
   have hvpq:=oA (val q*2^s) (q.length+1);generalize pad (val q*2^s) (q.length+1)=vq at *;generalize hU0:pad (val p*2^s) (p.length+1)=u0 at *;refine qF (.trans (.le (ps':=⟨[(0,nat p),(1,nat q),(9,iV s),(55,oV 55 1 (p.length+1)),(58,oV 58 1 (q.length+1))],[(55,aV 1 (lm u0)),(58,aV 1 (lm vq))]⟩) ?_ ?_ rfl) (.frz 58 rfl rfl ?_ ?_)) rfl (by refine⟨zS ?_,trivial⟩;omega) (b9 vq oM) rfl ?_;{cbv;exact okA};{cbv;exact⟨zH rfl,zH rfl,trivial⟩};{cbv;refine⟨z8 ?_,trivial⟩;grind [zI]};{exact trivial};rw[hvpq];have hdiv:val a/val b=val p*2^s/(val q*2^s):=by grind [Nat.mul_div_mul_right]
   (have hmod:val p*2^s%(val q*2^s)=(val a%val b)*2^s:=by grind [Nat.mul_mod_mul_right]);clear hVge hqge hfrz
   (generalize hVV:val q*2^s=V at *;generalize zJ V=v at *;generalize hAA:val p*2^s=A at *;have hvt:=Cm hvl;rw[hvv] at hvt;have hvtl:=w5 v n;have hvtl1:=w5 v (n+1);have hvtop:=z6 v (n+1);rw[yW oM,hvv] at hvtop;have hnorm:B<=2*(v.getD (n+1) 0).toNat:=by rcases qW (2*(v.getD (n+1) 0).toNat) B with h3|h3;{exfalso;have h4:=vQ (B^(n+1)) (show (v.getD (n+1) 0).toNat+1<=2147483648 by omega);rw[qO] at h4;omega};omega);obtain⟨M,hM⟩:∃ M,M=p.length-q.length+1:=⟨_,rfl⟩;rw[<-hM] at hA0;cbv;refine⟨zC om om,zC om om,z5 om om,kX om om,zC om om,?_⟩;refine zW (σ:=Nat×List UInt32×List UInt32) (λz=>⟨[(9,iV s),(10,oV 55 1 (p.length+1)),(11,nat v),(12,oV 66 1 M),(13,iV ((z.1:Int)-1))],[(55,aV 1 (lm z.2.1)),(66,aV 1 (lm z.2.2))]⟩)
    (λz=>DivInv A V (p.length+1) M z.1 z.2.1 z.2.2) (λz=>z.1) (M,u0,List.replicate M 0) ⟨yD _,hpadl,by simp,hA0,by grind [val]⟩ (.le ?_ ?_ rfl) ?_
   {cbv;exact⟨lR,lR,lR,zZ rfl (by (try dsimp only [zY] at *);grind [zI]),zB (by (try dsimp only [zY] at *);grind [zI]),trivial⟩};{cbv;exact⟨zH rfl,zH (ZW M _ (by (try dsimp only [zY] at *);grind [zI])),trivial⟩};intro z hz;generalize z.1=k at *;generalize z.2.1=u at *;generalize z.2.2=out at *;cbv;refine zE (λh3=>?_) (λh3=>?_)
   ·obtain⟨i,rfl⟩:∃ i,k=i+1:=⟨k-1,by exact om⟩;have hkle:=hz.kle;have hlo:=hz.lo;obtain⟨e0,hxl,hprel,hxv,hstep⟩:=AJ (n:=n) (q:=YG (val ((u.drop i).take (n+3))) V (iF (v.getD (n+1) 0).toNat (v.getD n 0).toNat ((((u.drop i).take (n+3))).getD n 0).toNat (((((u.drop i).take (n+3)).getD (n+2) 0).toNat*B+(((u.drop i).take (n+3)).getD (n+1) 0).toNat)/(v.getD (n+1) 0).toNat) (((((u.drop i).take (n+3)).getD (n+2) 0).toNat*B+(((u.drop i).take (n+3)).getD (n+1) 0).toNat)%(v.getD (n+1) 0).toNat))) hz hVlt hV0 oM;generalize (u.drop i).take (n+3)=x at *;generalize u.take i=pre at *;generalize u.drop (i+(n+3))=post at *;have hxt:=Cl hxl;have hxtl:=w5 x n;have hx2:=yM (x.getD n 0);have hv2:=yM (v.getD n 0);have hv1:=yM (v.getD (n+1) 0);have hx1:=yM (x.getD (n+1) 0);have hle:(x.getD (n+2) 0).toNat<=(v.getD (n+1) 0).toNat:=by rcases qW (v.getD (n+1) 0).toNat (x.getD (n+2) 0).toNat with h4|h4;{exfalso;have h5:=z6 x (n+2);rw[yW oM] at h5;have h6:=vQ (B^(n+2)) (show (v.getD (n+1) 0).toNat+1<=(x.getD (n+2) 0).toNat from h4);have h7:B*V<B*(B^(n+1)*((v.getD (n+1) 0).toNat+1)):=Nat.mul_lt_mul_of_pos_left (by rw[qO];omega) w8;rw[<-gF,show B*B^(n+1)=B^(n+2) by rw[uC B (n+1),qX]] at h7;omega};{exact h4}
    (have hS:=Ou pre x post v n hxl hvl oM oM hnorm hle;have htopv:0<(v.getD (n+1) 0).toNat:=by omega);have htop:(x.getD (n+2) 0).toNat*B+(x.getD (n+1) 0).toNat<(v.getD (n+1) 0).toNat*B+B:=by have:=jC B hle;omega
    have hq0:((x.getD (n+2) 0).toNat*B+(x.getD (n+1) 0).toNat)/(v.getD (n+1) 0).toNat<=B+1:=by
     (have h4:(x.getD (n+2) 0).toNat*B+(x.getD (n+1) 0).toNat<(B+2)*(v.getD (n+1) 0).toNat:=by rw[gI,qX B (v.getD (n+1) 0).toNat];omega);have:=(ZE htopv).2 h4;omega
    (have hr0:((x.getD (n+2) 0).toNat*B+(x.getD (n+1) 0).toNat)%(v.getD (n+1) 0).toNat<B:=fJ (vZ _ htopv) hv1;have hE:=JO (U:=val x) (V:=V) (P:=B^n) (ur:=val (x.take n)) (vr:=val (v.take n)) htopv hv2 hx2 hxt hvt hxtl hvtl hxv htop (B-((x.getD (n+2) 0).toNat*B+(x.getD (n+1) 0).toNat)%(v.getD (n+1) 0).toNat) _ _ (yD _) (AG htopv hxt hvt hxtl hx2) hr0 hq0;generalize iF (v.getD (n+1) 0).toNat (v.getD n 0).toNat (x.getD n 0).toNat (((x.getD (n+2) 0).toNat*B+(x.getD (n+1) 0).toNat)/(v.getD (n+1) 0).toNat) (((x.getD (n+2) 0).toNat*B+(x.getD (n+1) 0).toNat)%(v.getD (n+1) 0).toNat)=q0 at *;have hR:=Ow pre x post v (n+2) q0 hxl hvl oM oM hE.b (by rw[hvv];exact hE.hi);rw[hvv] at hR;have hdg:=AM hV0 hE;obtain⟨hdB,hinv⟩:=hstep hdg;generalize YG (val x) V q0=d at *;have hi1:((i+1:Nat):Int)-1=(i:Int):=by omega);cbv
    (try dsimp only [zY] at *)
    refine⟨zC om om,zC om om,uT om om om,S6 om,?_⟩;refine kW (λ_=>55) (.le (ps':=⟨[(9,iV s),(10,oV 55 1 (p.length+1)),(11,nat v),(12,oV 66 1 M),(13,iV i),(82,oV 66 1 M),(83,iV i),(84,.osl 55 1 (λ_=>pre.length) (λ_=>n+2+1)),(85,nat v),(86,.osl 55 1 (λ_=>pre.length) (λ_=>n+3)),(87,nat v)],[(55,aV 1 (lm (pre++(x++post)))),(66,aV 1 (lm out))]⟩) ?_ ?_ rfl) hS ?_;{cbv;refine⟨lR,lR,lR,lR,zB om,lR,zB om,zZ ?_ ?_,lR,zZ ?_ ?_,lR,trivial⟩ <;> ((try dsimp only [zY] at *);(try simp only[zI]);omega)};{cbv;exact⟨zH (by rw[e0]),zH rfl,trivial⟩};cbv;refine kA (λ_=>55) hR ?_;cbv;refine⟨yZ om om,j9 i (by simp) oM ?_⟩;cbv;refine⟨zC om om,(i,pre++(pad (val x-d*V) (n+2+1)++post),out.set i (UInt32.ofNat d)),hinv,Nat.lt_succ_self i,.le ?_ ?_ rfl⟩;{cbv;exact okA};{cbv;exact⟨zH rfl,zH (fE out (by simp) rfl hdB),trivial⟩}
   ·(have hk0:k=0:=by exact om);subst hk0
    (have hlo:=hz.lo;have hlu:=hz.lu;have heq:=hz.eq;have hlt:=hz.lt;rw[xM,Nat.pow_zero,Nat.one_mul] at heq;rw[xM] at hlt;have hQ:A/V=val out:=Nat.div_eq_of_lt_le (by grind) (by grind);have hRm:A%V=val u:=by rw[<-heq,Tc];exact qY hlt);cbv
    refine qF (.trans (.le (ps':=⟨[(9,iV s),(12,oV 66 1 M),(92,oV 55 1 (p.length+1)),(93,iV s)],[(55,aV 1 (lm u)),(66,aV 1 (lm out))]⟩) ?_ ?_ rfl) (.trans (.frz 55 rfl rfl ?_ ?_) (.frz 66 rfl rfl ?_ ?_))) rfl (by refine⟨zS ?_,lR,trivial⟩;grind [zI]) (Ot u s oM oM) rfl ?_;{cbv;exact okA};{cbv;exact⟨zH rfl,zH rfl,trivial⟩};{cbv;exact⟨z8 (by grind [zI]),trivial⟩};{exact trivial};{cbv;exact⟨z8 (by grind [zI]),trivial⟩};{exact trivial};cbv;refine yP rfl (by refine⟨zS ?_,trivial⟩;grind [zI]) (b9 out oM) rfl ?_;cbv;refine j7 rfl ?_ rfl;refine⟨zS ?_,zS ?_,lR,trivial⟩;{grind};grind [Nat.mul_div_cancel]
def kH {n m:Nat}(h:n<=m):(zJ n).length<=(zJ m).length:=by rcases qW (zJ m).length (zJ n).length with h1|h1;{have:=Zx h1;omega};omega
def OC (a b:List UInt32)(ha:a.length<2^39)(hb:b.length<2^39):zD 285 [nat a,nat b] (nat (zJ (Nat.gcd (val a) (val b)))):=by
 refine sF Tryz.f285 ?_;have ha':=xF (z7 a) ha;have hb':=xF (z7 b) hb;have hBB:B*B=18446744073709551616:=by decide
 generalize hg:Nat.gcd (val a) (val b)=g;cbv;refine cA (b9 a oM) ?_;cbv;refine cA (b9 b oM) ?_;cbv;refine zW (σ:=Nat×Nat) (λz=>⟨[(0,nat (zJ z.1)),(1,nat (zJ z.2))],[]⟩) (λz=>(zJ z.1).length<2^39/\(zJ z.2).length<2^39/\Nat.gcd z.1 z.2=g) (λz=>z.2) (val a,val b) ⟨ha',hb',hg⟩ (.le ?_ trivial rfl) ?_;{cbv;exact okA};intro z hz;obtain⟨h1,h2,h3⟩:=hz;generalize z.1=x at *;generalize z.2=y at *;cbv;refine zE (λh4=>?_) (λh4=>?_)
 ·(cbv;have hy:y≠0:=λe=>by subst e;(try dsimp only [zY] at *);grind [lm,y4]);refine cA (Rq (zJ x) (zJ y) h1 h2 (by grind [zR])) ?_
  cbv;have hm:=vZ x (pF hy);refine⟨(y,x%y),⟨h2,xF (kH (ZC hm)) h2,by grind [Nat.gcd_comm,Nat.gcd_rec]⟩,hm,.le ?_ trivial rfl⟩;cbv;exact⟨lR,zS (by grind [zR]),trivial⟩
 {have hy2:y<B*B:=H8.1 (by (try dsimp only [zY] at *);grind [zI]);cbv;refine zE (λh5=>?_) (λh5=>?_);{have hy:y=0:=wA.1 (j3 (by (try dsimp only [zY] at *);grind [zI]));subst hy;cbv;refine cA (C1 (zJ x) oM) ?_;cbv;refine j7 rfl (zS ?_) rfl;rw[zR,<-h3,Nat.gcd_zero_right]};{have hy:y≠0:=λe=>h5 (by subst e;simp[lm,y4]);have hm:=vZ x (pF hy);cbv;refine cA (Rq (zJ x) (zJ y) h1 h2 (by grind [zR])) ?_;rw[zR,zR];cbv;refine cA (Lp (zJ y) oM) ?_;rw[zR,if_pos hy2];cbv;refine cA (Lp (zJ (x%y)) (xF (kH (ZC hm)) oM)) ?_;rw[zR,if_pos oM];cbv;refine zW (σ:=Nat×Nat) (λz=>⟨[(11,.int .u64 (λ_=>(z.1:Int))),(13,.int .u64 (λ_=>(z.2:Int)))],[]⟩) (λz=>z.1<B*B/\z.2<B*B/\Nat.gcd z.1 z.2=g) (λz=>z.2) (y,x%y) ⟨hy2,by omega,by grind [Nat.gcd_comm,Nat.gcd_rec]⟩ (.le ?_ trivial rfl) ?_;{cbv;exact okA};clear hm hy h3 h4 h5 h1 h2 hy2;intro z hz;obtain⟨h1,h2,h3⟩:=hz;generalize z.1=x at *;generalize z.2=y at *;cbv;refine zE (λh4=>?_) (λh4=>?_);{have hy:0<y:=om;have hm:=vZ x hy;cbv;refine zM 5 (by cbv) ?_;cbv;refine⟨vX om,(y,x%y),⟨h2,by omega,by grind [Nat.gcd_comm,Nat.gcd_rec]⟩,hm,.le ?_ trivial rfl⟩;cbv;exact⟨lR,zB uJ,trivial⟩};{have hy:y=0:=om;subst hy;cbv;refine cA (Rt x h1) ?_;cbv;refine j7 rfl (zS ?_) rfl;grind}}}
end Go.Proofs.YtaeaffgjdcigoaaGreat
namespace Go.Proofs.YtaeaffgjdcigoaaGreat
structure R where
 neg:Bool
 num:List UInt32
 den:List UInt32
deriving DecidableEq
def sgn (b:Bool) (n:Nat):Int:=if b then -(n:Int) else n
def qH (b:Bool)(n:Nat):(sgn b n).natAbs=n:=by grind [sgn]
def KJ (b:Bool):sgn b 0=0:=by cases b <;> rfl
def Qe {b:Bool}{n:Nat}:sgn b n<0↔(b=true/\n≠0):=by grind [sgn]
def XA (z:Int):sgn (decide (z<0)) z.natAbs=z:=by grind [sgn]
def Qd (a b:Bool)(n m:Nat):sgn a n*sgn b m=sgn (a != b) (n*m):=by cases a <;> cases b <;> simp[sgn,Int.neg_mul,Int.mul_neg]
def Yq (a:Bool)(n m:Nat):sgn a n*(m:Int)=sgn a (n*m):=by grind [sgn]
def GN (a:Bool)(n:Nat):sgn (!a) n=- sgn a n:=by grind [sgn]
def R.n (x:R):Int:=sgn x.neg (val x.num)
def R.d (x:R):Nat:=if val x.den=0 then 1 else val x.den
def R.q (x:R):Rat:=mkRat x.n x.d
theorem R.d_ne (x:R):x.d≠0:=by grind [R.d]
def zG (q:Rat):R:=⟨decide (q.num<0),zJ q.num.natAbs,if q.den=1 then [] else zJ q.den⟩
theorem BJ (q:Rat):(zG q).n=q.num:=by simp only[R.n,zG,zR];exact XA _
theorem Nu (q:Rat):(zG q).d=q.den:=by have:=q.den_pos;unfold R.d zG;by_cases h:q.den=1;{simp[h,val]};{simp only[h,if_false,zR];grind}
theorem zV (q:Rat):(zG q).q=q:=by grind [R.q,BJ,Nu,Rat.mkRat_self]
def u9:zG 0=⟨false,[],[]⟩:=by simp[zG,y4]
def G9 {neg:Bool}{n d:Nat}(hd:d≠0):(mkRat (sgn neg n) d).num=sgn neg (n/Nat.gcd n d):=by rw[Rat.num_mkRat,if_neg hd,qH,Nat.gcd_comm];grind [Int.natCast_dvd_natCast,Nat.gcd_dvd_left,sgn,Int.neg_ediv_of_dvd]
def Fa {neg:Bool}{n d:Nat}(hd:d≠0):(mkRat (sgn neg n) d).den=d/Nat.gcd n d:=by rw[Rat.den_mkRat,if_neg hd,qH,Nat.gcd_comm]
def ZU {neg:Bool}{n d:Nat}(hd:d≠0):zG (mkRat (sgn neg n) d)=⟨neg&&decide (n≠0),zJ (n/Nat.gcd n d),if d/Nat.gcd n d=1 then [] else zJ (d/Nat.gcd n d)⟩:=by
 rw[zG,G9 hd,Fa hd,qH];congr 1;rw[Bool.eq_iff_iff];have hg:0<Nat.gcd n d:=Nat.gcd_pos_of_pos_right n (Nat.pos_of_ne_zero hd);have h1:n/Nat.gcd n d=0↔n=0:=by rw[Nat.div_eq_zero_iff_lt hg];grind [Nat.gcd_le_left]
 simp only[decide_eq_true_eq,Bool.and_eq_true,Qe,ne_eq,h1]
def Bo (a b:R):a.q+b.q=mkRat (a.n*b.d+b.n*a.d) (a.d*b.d):=Rat.mkRat_add_mkRat _ _ a.d_ne b.d_ne
def PX (a b:R):a.q*b.q=mkRat (a.n*b.n) (a.d*b.d):=Rat.mkRat_mul_mkRat _ _ _ _
def Bl (a:R):(⟨!a.neg,a.num,a.den⟩:R).q=- a.q:=by simp only[R.q,R.n,R.d,GN,Rat.neg_mkRat]
def Za {n:Int}{d:Nat}(hd:d≠0):0<=mkRat n d↔0<=n:=by rw[<-Rat.divInt_ofNat];exact Rat.divInt_nonneg_iff_of_pos_right (by omega)
def LG (a b:R):a.q-b.q=mkRat (a.n*b.d-b.n*a.d) (a.d*b.d):=by rw[Rat.sub_eq_add_neg,<-Bl,Bo];simp only[R.n,R.d,GN,Int.neg_mul,Int.sub_eq_add_neg]
def OR (a b:R):a.q<=b.q↔a.n*b.d<=b.n*a.d:=by rw[Rat.le_iff_sub_nonneg,LG,Za (Nat.mul_ne_zero b.d_ne a.d_ne)];omega
def OQ (a b:R):a.q<b.q↔a.n*b.d<b.n*a.d:=by rw[<-Rat.not_le,OR];omega
theorem DC (a:R):a.q=0↔a.n=0:=Rat.mkRat_eq_zero a.d_ne
theorem KZ (a:R):0<=a.q↔0<=a.n:=Za a.d_ne
def Uk (a:R):a.q<0↔a.n<0:=by grind [KZ]
def LH (a:R):0<a.q↔0<a.n:=by grind [KZ,DC]
def z3 (q:Rat):Int:=if q<0 then -1 else if 0<q then 1 else 0
def wK (a b:Rat):Int:=if a<b then -1 else if b<a then 1 else 0
def jT (z:Int):Int:=if z<0 then -1 else if 0<z then 1 else 0
def YS (a b:Int):Int:=if a<b then -1 else if b<a then 1 else 0
def CG (a:R):z3 a.q=jT a.n:=by simp only[z3,jT,Uk,LH]
def Nx (a b:R):wK a.q b.q=YS (a.n*b.d) (b.n*a.d):=by simp only[wK,YS,OQ]
structure Fits (k:Nat) (q:Rat):Prop where
 num:q.num.natAbs<B^k
 den:q.den<B^k
theorem Fits.mono {k m:Nat}{q:Rat}(h:Fits k q)(hm:k<=m):Fits m q :=
 ⟨Nat.lt_of_lt_of_le h.num (Nat.pow_le_pow_right w8 hm),Nat.lt_of_lt_of_le h.den (Nat.pow_le_pow_right w8 hm)⟩
theorem sR {k:Nat}{n:Int}{d:Nat}(hn:n.natAbs<B^k)(hd:d<B^k)(h0:d≠0):Fits k (mkRat n d):=by have hs:n=sgn (decide (n<0)) n.natAbs:=(XA n).symm;rw[hs];refine⟨?_,?_⟩;{rw[G9 h0,qH];exact Nat.lt_of_le_of_lt (Nat.div_le_self _ _) hn};{rw[Fa h0];exact Nat.lt_of_le_of_lt (Nat.div_le_self _ _) hd}
def Ng {k:Nat}{x:R}(h1:x.num.length<=k)(h2:x.den.length<=k)(hk:1<=k):Fits k x.q:=by refine sR ?_ ?_ x.d_ne;{rw[R.n,qH];exact Nat.lt_of_lt_of_le (x5 _) (Nat.pow_le_pow_right w8 h1)};{unfold R.d;split;{exact Nat.lt_of_lt_of_le (show 1<B^1 by decide) (Nat.pow_le_pow_right w8 hk)};{exact Nat.lt_of_lt_of_le (x5 _) (Nat.pow_le_pow_right w8 h2)}}
theorem Fits.lnum {k:Nat}{q:Rat}(h:Fits k q):(zG q).num.length<=k:=yF h.num
theorem Fits.lden {k:Nat}{q:Rat}(h:Fits k q):(zG q).den.length<=k:=by unfold zG;by_cases h1:q.den=1;{simp[h1]};{simp only[h1,if_false];exact yF h.den}
def x7 {a b k m:Nat}(ha:a<B^k)(hb:b<B^m):a*b<B^(k+m):=by rw[Nat.pow_add];exact Nat.mul_lt_mul'' ha hb
def yY {k m:Nat}{a b:Rat}(ha:Fits k a)(hb:Fits m b):Fits (k+m) (a*b):=by rw[Rat.mul_def'];refine sR ?_ (x7 ha.den hb.den) (Nat.mul_ne_zero a.den_nz b.den_nz);rw[Int.natAbs_mul];exact x7 ha.num hb.num
theorem uK {k m:Nat}{a b:Rat}(ha:Fits k a)(hb:Fits m b):Fits (k+m+1) (a+b):=by rw[Rat.add_def'];have h1:=x7 ha.num hb.den;have h2:=x7 hb.num ha.den;rw[Nat.add_comm m k] at h2;have h3:B^(k+m+1)=B^(k+m)*B:=Nat.pow_succ _ _;have hd:=x7 ha.den hb.den;have h5:B^(k+m)*2<=B^(k+m)*B:=Nat.mul_le_mul_left _ (by decide);refine sR ?_ ?_ (Nat.mul_ne_zero a.den_nz b.den_nz);{grind [Int.natAbs_add_le,Int.natAbs_mul]};omega
theorem qE {k:Nat}{a:Rat}(ha:Fits k a):Fits k (-a):=⟨by rw[Rat.neg_num,Int.natAbs_neg];exact ha.num,by rw[Rat.neg_den];exact ha.den⟩
def vC {k m:Nat}{a b:Rat}(ha:Fits k a)(hb:Fits m b):Fits (k+m+1) (a-b):=by grind [Rat.sub_eq_add_neg,uK,qE]
theorem vY {k:Nat}(hk:1<=k):Fits k 0 :=
 ⟨by simp;exact Nat.pow_pos w8,by simp;exact Nat.lt_of_lt_of_le (show 1<B^1 by decide) (Nat.pow_le_pow_right w8 hk)⟩
def WJ {k:Nat}{z:Int}(h:z.natAbs<B^k)(hk:1<=k):Fits k (z:Rat) :=
 ⟨by simp_all,by simp;exact Nat.lt_of_lt_of_le (show 1<B^1 by decide) (Nat.pow_le_pow_right w8 hk)⟩
def bD {k:Nat}{a:Rat}(ha:Fits k a):Fits k a⁻¹:=by
 refine⟨?_,?_⟩
 ·(rw[Rat.num_inv,Int.natAbs_mul];have h1:a.num.sign.natAbs<=1:=by grind);have h2:=ha.den
  grind
 {rw[Rat.den_inv];split;{have:=ha.den;simp_all};{exact ha.num}}
def R.ok (x:R):Bool:=decide (x=zG x.q)
theorem lE (q:Rat):(zG q).ok=true:=by simp[R.ok,zV]
end Go.Proofs.YtaeaffgjdcigoaaGreat
namespace Go.Proofs.YtaeaffgjdcigoaaGreat
open Go
set_option maxRecDepth 100000
def wB {nb:Bool}{objs:List (Nat×Obj')}{f:FuncId}{args args':List PV}{K:PV->Prop}{r:PV}(h2:jA les args args')(h3:zD f args' r)(h5:nmIn [] r=true)(h4:K r):CallS nb objs f args K:=⟨.inl ⟨args',r,lP h2,h3,h5,h4⟩⟩
def dA {nb:Bool}{objs:List (Nat×Obj')}{f:FuncId}{args args':List PV}{K:PV->Prop}{r:PV}(h3:zD f args' r)(h4:K r)(h2:jA les args args':=by exact okA)(h5:nmIn [] r=true:=by exact rfl):CallS nb objs f args K:=wB h2 h3 h5 h4
def f9 (a b:List UInt32):(zJ (val a*val b)).length<=a.length+b.length:=yF (x7 (x5 a) (x5 b))
def Fv (a b:List UInt32):(zJ (val a+val b)).length<=a.length+b.length+1:=by refine yF ?_;have h1:=uR (x5 a) (dH w8 (Nat.le_add_right a.length b.length));have h2:=uR (x5 b) (dH w8 (Nat.le_add_left b.length a.length));have h3:B^(a.length+b.length)*2<=B^(a.length+b.length)*B:=vQ _ (by decide);rw[uC];omega
def Y0 (a b:List UInt32):(zJ (val a-val b)).length<=a.length:=yF (xF (Nat.sub_le _ _) (x5 a))
structure Z where
 neg:Bool
 mag:List UInt32
def Z.v (x:Z):Int:=sgn x.neg (val x.mag)
def x8 (z:Int):Z:=⟨decide (z<0),zJ z.natAbs⟩
theorem dO (z:Int):(x8 z).v=z:=by simp only[Z.v,x8,zR];exact XA z
abbrev zv (x:Z):PV:=.agg [bV x.neg,nat x.mag]
def Jp (neg:Bool)(n:Nat):x8 (sgn neg n)=⟨neg&&decide (n≠0),zJ n⟩:=by simp only[x8,qH];congr 1;rw[rS];simp only[decide_eq_true_eq,Qe,yK]
def CF {b:Bool}{n:Nat}(h:¬sgn b n<0):sgn b n=(n:Int):=by cases b;{rfl};{simp only[sgn,if_true] at h ⊢;omega}
def C2 (neg:Bool)(m:List UInt32)(hm:m.length<2^40):zD 275 [bV neg,nat m] (zv (x8 (sgn neg (val m)))):=by
 refine sF Tryz.f275 ?_;rw[Jp];cbv;refine cA (C1 m hm) ?_;cbv;refine yA (λh=>?_) (λh=>?_)
 ·subst h;cbv
  (refine rC ?_;cbv)
  refine⟨z4 ?_,lR,trivial⟩;rw[rS];simp only[decide_eq_true_eq,zI,yN];rw[<-@wA (val m),<-Kp]
  (try dsimp only [zY] at *)
  omega
 {subst h;cbv;exact rA}
def OK (x:Int)(h1:-9223372036854775808<=x)(h2:x<9223372036854775808):zD 228 [iV x] (zv (x8 x)):=by
 refine sF Tryz.f228 ?_;have hBB:B*B=18446744073709551616:=by decide
 have e:zv (x8 x)=.agg [bV (decide (x<0)),nat (zJ x.natAbs)]:=rfl;rw[e];cbv;refine zE (λh=>?_) (λh=>?_)
 ·(have e1:nx .u64 (0-nx .u64 x)=((x.natAbs:Nat):Int):=by grind [uH]);generalize hn:x.natAbs=n at *
  cbv;refine yP rfl (by exact⟨zB e1,trivial⟩) (Rt n oM) rfl ?_;cbv
  (refine rC ?_;cbv)
  exact⟨yH (decide_eq_true h),lR,trivial⟩
 ·(have e1:nx .u64 x=((x.natAbs:Nat):Int):=by grind [uH]);generalize hn:x.natAbs=n at *
  cbv;refine yP rfl (by exact⟨zB e1,trivial⟩) (Rt n oM) rfl ?_;cbv
  (refine rC ?_;cbv)
  exact⟨zK (decide_eq_false h),lR,trivial⟩
def Mv (x:Z)(hx:x.mag.length<2^40):zD 232 [zv x] (iV (jT x.v)):=by
 refine sF Tryz.f232 ?_;obtain⟨neg,mag⟩:=x;have hv:Z.v ⟨neg,mag⟩=sgn neg (val mag):=rfl;rw[hv];have h0:((gE (val mag):Nat):Int)=0↔val mag=0:=by grind [lY]
 have hs:=Lv mag hx;generalize gE (val mag)=b at h0 hs;generalize hS:jT (sgn neg (val mag))=S at *;cbv;refine cA hs ?_;cbv;refine zE (λh=>?_) (λh=>?_)
 ·cbv
  (refine rC ?_;cbv)
  refine zB ?_;rw[<-hS,h0.1 h,KJ];rfl
 ·have hne:val mag≠0:=λe=>h (h0.2 e);cbv;refine zP (λh2=>?_) (λh2=>?_)
  ·subst h2;cbv
   (refine rC ?_;cbv)
   refine zB ?_;rw[<-hS,show sgn true (val mag)=-(val mag:Int) from rfl];unfold jT;omega
  ·subst h2;cbv
   (refine rC ?_;cbv)
   refine zB ?_;rw[<-hS,show sgn false (val mag)=(val mag:Int) from rfl];unfold jT;omega
def OE (x y:Z)(hx:x.mag.length<2^40)(hy:y.mag.length<2^40):zD 244 [zv x,zv y] (iV (YS x.v y.v)):=by
 refine sF Tryz.f244 ?_;have hsx:=Mv x hx;have hsy:=Mv y hy;have hxv:x.v=sgn x.neg (val x.mag):=rfl;have hyv:y.v=sgn y.neg (val y.mag):=rfl;have h1:jT x.v<jT y.v->YS x.v y.v=-1:=by intro h;unfold jT at h;unfold YS;split at h <;> split at h <;> (try split at h) <;> (try split at h) <;> first|(rw[if_pos oM])|omega
 have h2:jT y.v<jT x.v->YS x.v y.v=1:=by intro h;unfold jT at h;unfold YS;split at h <;> split at h <;> (try split at h) <;> (try split at h) <;> first|(rw[if_neg oM,if_pos oM])|omega
 have h3:jT x.v=jT y.v->jT x.v<0->YS x.v y.v=qQ (val y.mag) (val x.mag):=by
  (intro h h';have a1:x.v<0:=by unfold jT at h';split at h' <;> (try split at h') <;> omega);have a2:y.v<0:=by rw[h] at h';unfold jT at h';split at h' <;> (try split at h') <;> omega
  rw[hxv,Qe] at a1;rw[hyv,Qe] at a2;rw[hxv,hyv,a1.1,a2.1];simp only[YS,qQ,sgn,if_true];omega
 have h4:jT x.v=jT y.v->¬jT x.v<0->YS x.v y.v=qQ (val x.mag) (val y.mag):=by
  (intro h h';have a1:¬x.v<0:=by unfold jT at h';split at h' <;> (try split at h') <;> omega);have a2:¬y.v<0:=by rw[h] at h';unfold jT at h';split at h' <;> (try split at h') <;> omega
  (have b1:x.v=(val x.mag:Int):=by rw[hxv] at a1 ⊢;exact CF a1);have b2:y.v=(val y.mag:Int):=by rw[hyv] at a2 ⊢;exact CF a2
  grind [YS,qQ]
 generalize YS x.v y.v=C at *;generalize jT x.v=s at *;generalize jT y.v=t at *;cbv;refine zM 4 (by cbv) ?_;cbv;refine dA hsx ?_;cbv;refine dA hsy ?_;cbv;refine zE (λh=>?_) (λh=>?_)
 ·cbv
  (refine rC ?_;cbv)
  exact zB (h1 h).symm
 ·cbv;refine zE (λh'=>?_) (λh'=>?_)
  ·cbv
   (refine rC ?_;cbv)
   exact zB (h2 h').symm
  ·(have he:s=t:=by omega);cbv
   refine zE (λh5=>?_) (λh5=>?_);{have h6:=h3 he h5;have h7:=HL y.mag x.mag hy hx;rw[<-h6] at h7;cbv;refine cA h7 ?_;cbv;exact rA};{have h6:=h4 he h5;have h7:=HL x.mag y.mag hx hy;rw[<-h6] at h7;cbv;refine cA h7 ?_;cbv;exact rA}
def OH (x y:Z)(hx:x.mag.length<2^38)(hy:y.mag.length<2^38):zD 287 [zv x,zv y] (zv (x8 (x.v+y.v))):=by
 refine sF Tryz.f287 ?_;obtain⟨n1,m1⟩:=x;obtain⟨n2,m2⟩:=y;have hv:Z.v ⟨n1,m1⟩+Z.v ⟨n2,m2⟩=sgn n1 (val m1)+sgn n2 (val m2):=rfl;have hl:=Fv m1 m2;have hl1:=Y0 m1 m2;have hl2:=Y0 m2 m1;have hx':m1.length<2^38:=hx;have hy':m2.length<2^38:=hy;rw[hv];have c1:n1=n2->zD 275 [bV n1,nat (zJ (val m1+val m2))] (zv (x8 (sgn n1 (val m1)+sgn n2 (val m2)))):=by intro h;have:=C2 n1 (zJ (val m1+val m2)) oM;rw[zR] at this;grind [sgn]
 have c2:n1≠n2->¬qQ (val m1) (val m2)<0->zD 275 [bV n1,nat (zJ (val m1-val m2))] (zv (x8 (sgn n1 (val m1)+sgn n2 (val m2)))):=by
  intro h h';have hge:val m2<=val m1:=by unfold qQ at h';omega
  (have:=C2 n1 (zJ (val m1-val m2)) oM;rw[zR] at this;have e:sgn n1 (val m1-val m2)=sgn n1 (val m1)+sgn n2 (val m2):=by grind [sgn]);grind
 have c3:n1≠n2->qQ (val m1) (val m2)<0->zD 275 [bV n2,nat (zJ (val m2-val m1))] (zv (x8 (sgn n1 (val m1)+sgn n2 (val m2)))):=by
  intro h h';have hge:val m1<=val m2:=by unfold qQ at h';omega
  (have:=C2 n2 (zJ (val m2-val m1)) oM;rw[zR] at this;have e:sgn n2 (val m2-val m1)=sgn n1 (val m1)+sgn n2 (val m2):=by grind [sgn]);simp_all
 have c0:=HL m1 m2 oM oM;generalize qQ (val m1) (val m2)=cm at *;generalize sgn n1 (val m1)+sgn n2 (val m2)=T at *;cbv;refine zE (λh=>?_) (λh=>?_);{have h':=c1 h;generalize x8 T=W at *;cbv;refine zM 8 (by cbv) ?_;cbv;refine dA (OD m1 m2 oM oM) ?_;cbv;refine dA h' ?_;cbv;exact rA};{have h2:=c2 h;have h3:=c3 h;generalize x8 T=W at *;cbv;refine cA c0 ?_;cbv;refine zE (λh4=>?_) (λh4=>?_);{cbv;refine cA (Lr m2 m1 oM oM) ?_;cbv;refine cA (h3 h4) ?_;cbv;exact rA};{cbv;refine cA (Lr m1 m2 oM oM) ?_;cbv;refine cA (h2 h4) ?_;cbv;exact rA}}
def Ls (x y:Z)(hx:x.mag.length<2^38)(hy:y.mag.length<2^38):zD 279 [zv x,zv y] (zv (x8 (x.v*y.v))):=by
 refine sF Tryz.f279 ?_;obtain⟨n1,m1⟩:=x;obtain⟨n2,m2⟩:=y;have hl:=f9 m1 m2;have hx':m1.length<2^38:=hx;have hy':m2.length<2^38:=hy;have hv:Z.v ⟨n1,m1⟩*Z.v ⟨n2,m2⟩=sgn (n1 != n2) (val m1*val m2):=Qd _ _ _ _;rw[hv];have c1:=C2 (n1 != n2) (zJ (val m1*val m2)) oM;rw[zR] at c1;have hb:(n1 != n2)=!decide (n1=n2):=by grind
 generalize x8 (sgn (n1 != n2) (val m1*val m2))=W at *;generalize hnb:(n1 != n2)=nb at *;cbv;refine zM 11 (by cbv) ?_;cbv;refine dA (Rw m1 m2 oM oM) ?_;cbv;refine wB (by exact⟨vM hb,lR,trivial⟩) c1 rfl ?_;cbv;exact rA
abbrev rv (x:R):PV:=.agg [bV x.neg,nat x.num,nat x.den]
structure R.sz (x:R) (k:Nat):Prop where
 n:x.num.length<=k
 d:x.den.length<=k
theorem zT {k:Nat}{q:Rat}(h:Fits k q):(zG q).sz k:=⟨h.lnum,h.lden⟩
theorem R.sz.fits {k:Nat}{x:R}(h:x.sz k)(hk:1<=k):Fits k x.q:=Ng h.n h.d hk
theorem R.sz.mono {k m:Nat}{x:R}(h:x.sz k)(hm:k<=m):x.sz m:=⟨vR h.n hm,vR h.d hm⟩
def wT (d:List UInt32):List UInt32:=if val d=0 then [1] else d
def jR (x:R):val (wT x.den)=x.d:=by unfold wT R.d;split;{rfl};{rfl}
def gX (d:List UInt32):(wT d).length<=d.length+1:=by grind [wT]
def Z1:zJ 1=[1]:=by rw[aP (by decide)];rw[show 1/B=0 by decide,y4];rfl
def fZ {n:Nat}:zJ n=[1]↔n=1:=by constructor;{intro h;have:=zR n;rw[h] at this;exact this.symm};{intro h;rw[h,Z1]}
def Lt:zD 269 [] (nat [1]):=by
 refine sF Tryz.f269 ?_;cbv
 (refine rC ?_;cbv)
 exact zS rfl
def Mq (l:List UInt32)(hl:l.length<2^40):zD 284 [nat l] (bV (decide (l=[1]))):=by
 refine sF Tryz.f284 ?_;generalize hd:decide (l=[1])=d;cbv;refine zQ (λh=>?_) (λh=>?_)
 ·have h1:l.length=1:=om;cbv;refine xG 0 rfl oM ?_;cbv
  (refine rC ?_;cbv)
  refine z4 ?_;rw[<-hd,decide_eq_decide]
  match l,h1 with
  |[x],_ =>
   have e1:[x].getD 0 0=x:=rfl;rw[e1];constructor;{intro h2;have:x=1:=ZD.1 (by show x.toNat=1;exact om);rw[this]};{intro h2;rw[List.cons.inj h2 |>.1];rfl}
 ·cbv
  (refine rC ?_;cbv)
  refine zK ?_;rw[<-hd];exact decide_eq_false λe=>h (by rw[e];rfl)
def HK (x:R)(hx:x.den.length<2^40):zD 264 [rv x] (nat (wT x.den)):=by
 refine sF Tryz.f264 ?_;obtain⟨neg,num,den⟩:=x;have h0:((gE (val den):Nat):Int)=0↔val den=0:=by grind [lY]
 have hs:=Lv den hx;have e1:val den=0->wT den=[1]:=λh=>if_pos h;have e2:val den≠0->wT den=den:=λh=>if_neg h;show wp _ _ (dT _ (nat (wT den)) [] []);generalize wT den=u at *;generalize gE (val den)=b at h0 hs;cbv;refine cA hs ?_;cbv;refine zE (λh=>?_) (λh=>?_)
 ·cbv;refine cA Lt ?_;cbv
  (refine rC ?_;cbv)
  exact zS (by grind)
 ·cbv
  (refine rC ?_;cbv)
  exact zS (by grind)
def Rx (neg:Bool)(num den:List UInt32)(hn:num.length<2^38)(hd:den.length<2^38)(h0:val den≠0):zD 263 [bV neg,nat num,nat den] (rv (zG (mkRat (sgn neg (val num)) (val den)))):=by
 refine sF Tryz.f263 ?_;rw[ZU h0];have hnl:=z7 num;have hdl:=z7 den;have hg0:Nat.gcd (val num) (val den)≠0:=λe=>h0 (Nat.eq_zero_of_gcd_eq_zero_right e);have cg:=OC (zJ (val num)) (zJ (val den)) oM oM;have cn:=Rq (zJ (val num)) (zJ (Nat.gcd (val num) (val den))) oM (xF (kH (Nat.le_of_dvd (pF h0) (Ko _ _))) oM) (by grind [zR]);have cd:=Rq (zJ (val den)) (zJ (Nat.gcd (val num) (val den))) oM (xF (kH (Nat.le_of_dvd (pF h0) (Ko _ _))) oM) (by grind [zR]);have cu:=Mq (zJ (Nat.gcd (val num) (val den))) (xF (kH (Nat.le_of_dvd (pF h0) (Ko _ _))) oM);have cf:=Mq (zJ (val den/Nat.gcd (val num) (val den))) (xF (kH (eW _ _)) oM);have cd1:=Mq (zJ (val den)) oM;have cm1:=C1 num oM;have cm2:=C1 den oM;rw[zR,zR] at cg cn cd;have hN:∀ n,((lm (zJ n)).length:Int)=0↔n=0:=λn=>by grind [zI,wA,List.length_eq_zero_iff]
 have hge1:Nat.gcd (val num) (val den)=1->val num/Nat.gcd (val num) (val den)=val num/\val den/Nat.gcd (val num) (val den)=val den:=λe=>by grind
 have hz:val num=0->val num/Nat.gcd (val num) (val den)=0/\val den/Nat.gcd (val num) (val den)=1:=λe=>by rw[e,Nat.gcd_zero_left,Nat.zero_div,Nat.div_self (pF h0)];omega
 have hd1:val den=1->Nat.gcd (val num) (val den)=1:=λe=>by simp_all
 generalize val den/Nat.gcd (val num) (val den)=D' at *;generalize val num/Nat.gcd (val num) (val den)=N' at *;generalize Nat.gcd (val num) (val den)=g at *;generalize val num=N at *;generalize val den=Dn at *;show wp _ _ (dT _ (.agg [bV (neg&&decide (N≠0)),nat (zJ N'),nat (if D'=1 then [] else zJ D')]) [] []);generalize hr1:(neg&&decide (N≠0))=r1;generalize hr2:(if D'=1 then [] else zJ D')=r2;cbv;refine cA cm1 ?_;cbv;refine zE (λh=>?_) (λh=>?_)
 ·have e:=(hN N).1 h;obtain⟨e1,e2⟩:=hz e;cbv
  (refine rC ?_;cbv)
  refine⟨zK ?_,yX ?_,yX ?_,trivial⟩;{grind};{simp_all};{rw[<-hr2,if_pos e2];rfl}
 ·(have e:=λe=>h ((hN N).2 e);have hr1':neg=r1:=by grind);cbv
  refine cA cm2 ?_;cbv;refine cA cd1 ?_;cbv;refine zE (λh2=>?_) (λh2=>?_)
  ·have e1:=fZ.1 h2;have e3:=hd1 e1;obtain⟨e4,e5⟩:=hge1 e3;cbv
   (refine rC ?_;cbv)
   refine⟨z4 hr1',zS (by rw[e4]),yX ?_,trivial⟩;rw[<-hr2,if_pos oM];rfl
  ·cbv;refine cA cg ?_;cbv;refine cA cu ?_;cbv;refine gD (σ:=Unit) (λ_=>⟨[(0,bV neg),(1,nat (zJ N')),(2,nat (zJ D')),(6,.ptr 6 0)],[(6,.box [.ff,.nil,.nil])]⟩) (λ_=>True) (λh3=>?_) (λh3=>?_) ?_;{have e3:=fZ.1 h3;obtain⟨e4,e5⟩:=hge1 e3;cbv;refine⟨(),trivial,.le ?_ ?_ rfl⟩;{cbv;exact⟨lR,zS (by rw[e4]),zS (by rw[e5]),lR,trivial⟩};{cbv;exact okA}};{cbv;refine cA cn ?_;cbv;refine cA cd ?_;cbv;refine⟨(),trivial,.le ?_ ?_ rfl⟩;{cbv;exact okA};{cbv;exact okA}};intro _ _;cbv;refine cA cf ?_;cbv;refine zE (λh3=>?_) (λh3=>?_)
   ·cbv
    (refine rC ?_;cbv)
    exact⟨z4 hr1',lR,yX (by rw[<-hr2,if_pos (fZ.1 h3)];rfl),trivial⟩
   ·cbv
    (refine rC ?_;cbv)
    exact⟨z4 hr1',lR,zS (by rw[<-hr2,if_neg (λe=>h3 (fZ.2 e))]),trivial⟩
def Rz (x:R)(hx:x.sz (2^36)):zD 224 [rv x] (rv (zG x.q)):=by refine sF Tryz.f224 ?_;have h1:=hx.n;have h2:=hx.d;have h3:=gX x.den;have cu:=HK x oM;have cq:=Rx x.neg x.num (wT x.den) oM oM (by rw[jR];exact x.d_ne);rw[jR] at cq;have e:mkRat (sgn x.neg (val x.num)) x.d=x.q:=rfl;rw[e] at cq;generalize zG x.q=W at *;generalize wT x.den=u at *;obtain⟨neg,num,den⟩:=x;cbv;refine zM 7 (by cbv) ?_;cbv;refine dA cu ?_;cbv;refine dA cq ?_;cbv;exact rA
def MS (x:R):x.ok=true↔(x.neg=(zG x.q).neg/\x.num.length=(zG x.q).num.length/\x.den.length=(zG x.q).den.length/\qQ (val x.num) (val (zG x.q).num)=0/\qQ (val x.den) (val (zG x.q).den)=0):=by
 have hc:∀ a b,qQ a b=0↔a=b:=λa b=>by grind [qQ]
 simp only[R.ok,decide_eq_true_eq,hc];constructor;{grind};{rintro⟨h1,h2,h3,h4,h5⟩;have e1:=YU h2 h4;have e2:=YU h3 h5;generalize zG x.q=y at *;obtain⟨a,b,c⟩:=x;simp_all}
def MR (neg:Bool)(num:List UInt32):R.ok ⟨neg,num,[]⟩=(bH num&&(!neg || decide (0<num.length))):=by
 have hq:R.q ⟨neg,num,[]⟩=mkRat (sgn neg (val num)) 1:=rfl;have hp:=ZU (neg:=neg) (n:=val num) (d:=1) (by decide);rw[rS];simp only[R.ok,decide_eq_true_eq,hq,hp,Nat.gcd_one_right,Nat.div_one,if_true,R.mk.injEq,and_true,yK,Kq,Vq];have hlen:0<num.length↔num≠[]:=by grind
 constructor
 ·(rintro⟨h1,h2⟩;have hcn:bH num=true:=by rw[h2];exact rQ _);refine⟨hcn,?_⟩
  cases neg with
  |false=>grind| true =>
   grind [val]
 ·rintro⟨h1,h2⟩;refine⟨?_,(lN h1).symm⟩;cases neg with
  |false=>rfl| true =>
   grind [U4]
def HO (x:R)(hx:x.sz (2^36)):zD 184 [rv x] (bV x.ok):=by
 refine sF Tryz.f184 ?_;have h1:=hx.n;have h2:=hx.d;have hok:=MS x;have hnil:x.den.length=0->x.ok=(bH x.num&&(!x.neg || decide (0<x.num.length))):=by intro h;obtain⟨a,b,c⟩:=x;have:c=[]:=j3 h;subst this;exact MR a b
 have cc:=Rz x hx;have cv:=OM x.num oM;have hf:Fits (2^36) x.q:=hx.fits (by decide);have hl1:=hf.lnum;have hl2:=hf.lden;have cm1:=HL x.num (zG x.q).num oM oM;have cm2:=HL x.den (zG x.q).den oM oM;generalize hO:x.ok=O at *;generalize zG x.q=W at *;clear hf;obtain⟨neg,num,den⟩:=x;obtain⟨neg',num',den'⟩:=W;simp only at *;generalize qQ (val num) (val num')=c1 at *;generalize qQ (val den) (val den')=c2 at *;cbv;refine zE (λh=>?_) (λh=>?_)
 ·have e:=hnil om;cbv;refine cA cv ?_;generalize bH num=cn at *;cbv;refine yA (λh3=>?_) (λh3=>?_)
  ·subst h3;cbv;refine yA (λh4=>?_) (λh4=>?_)
   ·subst h4;cbv
    (refine rC ?_;cbv)
    exact z4 (by rw[e];simp[zI])
   ·subst h4;cbv
    (refine rC ?_;cbv)
    exact yH (by grind)
  ·subst h3;cbv
   (refine rC ?_;cbv)
   exact zK (by grind)
 ·(cbv;refine cA cc ?_;cbv;have hno:∀ P:Prop,¬P->(O=true->P)->O=false:=λP h h'=>by grind);refine zQ (λh3=>?_) (λh3=>?_)
  ·cbv;refine zQ (λh4=>?_) (λh4=>?_)
   ·cbv;refine zQ (λh5=>?_) (λh5=>?_)
    ·cbv;refine cA cm1 ?_;cbv;refine zQ (λh6=>?_) (λh6=>?_)
     ·cbv;refine cA cm2 ?_;cbv
      (refine rC ?_;cbv)
      refine z4 ?_;rw[rS,hok,decide_eq_true_eq]
      (try dsimp only [zY] at *)
      grind [zI]
     ·cbv
      (refine rC ?_;cbv)
      exact zK (hno _ h6 λh7=>(hok.1 h7).2.2.2.1)
    ·cbv
     (refine rC ?_;cbv)
     refine zK (hno _ h5 λh7=>?_);have:=(hok.1 h7).2.2.1
     (try dsimp only [zY] at *)
     grind [zI]
   ·cbv
    (refine rC ?_;cbv)
    refine zK (hno _ h4 λh7=>?_);have:=(hok.1 h7).2.1
    (try dsimp only [zY] at *)
    grind [zI]
  ·cbv
   (refine rC ?_;cbv)
   exact zK (hno _ h3 λh7=>(hok.1 h7).1)
end Go.Proofs.YtaeaffgjdcigoaaGreat
