/- A part of the proof: NtI, NtJ, PnC, IgA. -/
import Derived.Test.YtaeaffgjdcigoaaGreatW16
import Derived.Test.YtaeaffgjdcigoaaGreatW14
set_option linter.all false
namespace Go.Proofs.YtaeaffgjdcigoaaGreat
open Go
set_option maxRecDepth 100000
def aB {g:Operand}{as_:List Operand}{dst:Option Nat}{ps ps':PS}{K:PS->Prop}{f:FuncId}{caps cargs:List PV}{kept eaten:List (Nat×Obj')}{r:PV}{kept' made:List (Nat×Obj')}(hn:Nat->Nat)(hw:Wk ps ps') (h1:ev (zE ps'.tmps) g=.fn f caps) (h2:jG les (evs (ev (zE ps'.tmps)) as_++caps) (oP hn cargs)) (h3:Sound f cargs kept eaten r kept' made) (h4:qE hn ps'.objs (kept++eaten)) (h5:ndO (z9 hn (kept++eaten))=true) (h5':ndO (kept++eaten)=true) (h6:bW (s4 (kept'++made)) (kept'++made)=true) (h7:ndO (z9 hn made)=true) (h8:aU hn (pF hn eaten ps') made=true) (h9:yT lv cargs=true) (h10:lv r=true) (h11:nmIn (s4 (kept'++made)) r=true) (h12:K (put (aM hn eaten kept' made ps') dst (ren hn r))):CallOk g as_ dst ps K :=
 ⟨ps',hw,f,caps,h1,.inr ⟨hn,cargs,kept,eaten,r,kept',made,lF h2,h3,h4,h5,h5',h6,h7,h8,h9,h10,h11,h12⟩⟩
def kA {g:Operand}{as_:List Operand}{dst:Option Nat}{ps:PS}{K:PS->Prop}{f:FuncId}{caps cargs:List PV}{kept eaten:List (Nat×Obj')}{r:PV}{kept' made:List (Nat×Obj')}(hn:Nat->Nat)(h3:Sound f cargs kept eaten r kept' made)(h12:K (put (aM hn eaten kept' made ps) dst (ren hn r)))(h1:ev (zE ps.tmps) g=.fn f caps:=by exact rfl)(h2:jG les (evs (ev (zE ps.tmps)) as_++caps) (oP hn cargs):=by exact okA)(h4:qE hn ps.objs (kept++eaten):=by exact okR)(h5:ndO (z9 hn (kept++eaten))=true:=by exact rfl)(h5':ndO (kept++eaten)=true:=by exact rfl)(h6:bW (s4 (kept'++made)) (kept'++made)=true:=by exact rfl)(h7:ndO (z9 hn made)=true:=by exact rfl)(h8:aU hn (pF hn eaten ps) made=true:=by exact rfl)(h9:yT lv cargs=true:=by exact rfl)(h10:lv r=true:=by exact rfl)(h11:nmIn (s4 (kept'++made)) r=true:=by exact rfl):CallOk g as_ dst ps K:=aB hn (.refl _) h1 h2 h3 h4 h5 h5' h6 h7 h8 h9 h10 h11 h12
def kW {g:Operand}{as_:List Operand}{dst:Option Nat}{ps ps':PS}{K:PS->Prop}{f:FuncId}{caps cargs:List PV}{kept eaten:List (Nat×Obj')}{r:PV}{kept' made:List (Nat×Obj')}(hn:Nat->Nat)(hw:Wk ps ps')(h3:Sound f cargs kept eaten r kept' made)(h12:K (put (aM hn eaten kept' made ps') dst (ren hn r)))(h1:ev (zE ps'.tmps) g=.fn f caps:=by exact rfl)(h2:jG les (evs (ev (zE ps'.tmps)) as_++caps) (oP hn cargs):=by exact okA)(h4:qE hn ps'.objs (kept++eaten):=by exact okR)(h5:ndO (z9 hn (kept++eaten))=true:=by exact rfl)(h5':ndO (kept++eaten)=true:=by exact rfl)(h6:bW (s4 (kept'++made)) (kept'++made)=true:=by exact rfl)(h7:ndO (z9 hn made)=true:=by exact rfl)(h8:aU hn (pF hn eaten ps') made=true:=by exact rfl)(h9:yT lv cargs=true:=by exact rfl)(h10:lv r=true:=by exact rfl)(h11:nmIn (s4 (kept'++made)) r=true:=by exact rfl):CallOk g as_ dst ps K:=aB hn hw h1 h2 h3 h4 h5 h5' h6 h7 h8 h9 h10 h11 h12
def kB {g:Operand}{as_:List Operand}{dst:Option Nat}{ps ps':PS}{K:PS->Prop}{f:FuncId}{caps cargs:List PV}{kept eaten:List (Nat×Obj')}{r:PV}{kept' made:List (Nat×Obj')}(hn:Nat->Nat)(hw:Wk ps ps')(h1:ev (zE ps'.tmps) g=.fn f caps)(h2:jG les (evs (ev (zE ps'.tmps)) as_++caps) (oP hn cargs))(h3:Sound f cargs kept eaten r kept' made)(h12:K (put (aM hn eaten kept' made ps') dst (ren hn r)))(h4:qE hn ps'.objs (kept++eaten):=by exact okR)(h5:ndO (z9 hn (kept++eaten))=true:=by exact rfl)(h5':ndO (kept++eaten)=true:=by exact rfl)(h6:bW (s4 (kept'++made)) (kept'++made)=true:=by exact rfl)(h7:ndO (z9 hn made)=true:=by exact rfl)(h8:aU hn (pF hn eaten ps') made=true:=by exact rfl)(h9:yT lv cargs=true:=by exact rfl)(h10:lv r=true:=by exact rfl)(h11:nmIn (s4 (kept'++made)) r=true:=by exact rfl):CallOk g as_ dst ps K:=aB hn hw h1 h2 h3 h4 h5 h5' h6 h7 h8 h9 h10 h11 h12
def Yc:∀ (n x:Nat),x<=n->x<4294967296->x<2^Lib.bitLen x
 |0,x,h,_=>by
  (have:x=0:=by omega);subst this
  exact WX _
 |n+1,x,h,hx=>by rcases WY x with e|e;{subst e;exact WX _};{rw[Lib.bitLen_half x oM oM,YE,uS];have:=Yc n (x/2) oM oM;omega}
def Dj {x:Nat}(h:x≠0)(hx:x<4294967296):2^(Lib.bitLen x-1)<=x:=by rcases kV x (2^(Lib.bitLen x-1)) with h1|h1;{have h2:=Lib.bitLen_le x (Lib.bitLen x-1) (by grind [cC]) h1;grind};omega
def Hq {x:Nat}(h:x≠0)(hx:x<4294967296):32-Lib.bitLen x<32/\2147483648<=x*2^(32-Lib.bitLen x)/\x*2^(32-Lib.bitLen x)<4294967296:=by have h1:=Dj h hx;have h2:=Yc x x (yD _) hx;have h3:=cC hx;have h4:=WR h hx;generalize Lib.bitLen x=k at *;refine⟨by omega,?_,?_⟩;{have h5:=kG (2^(32-k)) h1;rw[<-bR] at h5;grind};{have h5:=eK h2 (WX (32-k));rw[<-bR] at h5;grind}
def N8:Pg.funcs[286]?=some Tryz.f286:=by rw[uZ];rfl
def P8 {p:List UInt32}(hc:bL p=true){n:Nat}(hl:p.length=n+1):B^n<=val p:=by
 have hne:p≠[]:=λe=>by grind
 have h1:=tT hne;rw[hc] at h1;have h2:(p.getD n 0).toNat≠0:=by
  (intro e;have:p.getD (p.length-1) 0=0:=by rw[hl];exact Zt.1 e);grind
 have h3:=z4 p n;rw[yU oM] at h3;have:=wQ (B^n) (show 1<=(p.getD n 0).toNat by omega);omega
structure DivInv (A V N M:Nat) (k:Nat) (u out:List UInt32):Prop where
 kle:k<=M
 lu:u.length=N
 lo:out.length=M
 lt:val (u.drop k)<V
 eq:val u+V*(B^k*val (out.drop k))=A
def BZ {A V N M i n q:Nat}{u out:List UInt32}(h:DivInv A V N M (i+1) u out)(hV:V<B^(n+2))(h0:0<V)(hN:i+n+3<=N):let x:=(u.drop i).take (n+3)
  let pre:=u.take i
  let post:=u.drop (i+(n+3))
  u=pre++(x++post)/\x.length=n+3/\pre.length=i/\val x<B*V/\(q=val x/V->q<B/\DivInv A V N M i (pre++(pad (val x-q*V) (n+3)++post)) (out.set i (UInt32.ofNat q))):=by
 intro x pre post;have hlu:=h.lu;have e1:x++post=u.drop i:=by show (u.drop i).take (n+3)++u.drop (i+(n+3))=u.drop i;rw[<-Yg,JE]
 have e0:u=pre++(x++post):=by grind [List.take_append_drop]
 have hxl:x.length=n+3:=by show ((u.drop i).take (n+3)).length=_;rw[kX,bS];omega
 have hpl:pre.length=i:=by grind
 have hpost:val post=0:=by have h2:=Xc (l:=u.drop (i+1)) (n+2) (by rw[bS];omega) (bQ h.lt hV);grind [List.drop_drop]
 have hdi:val (u.drop i)=val x:=by grind [vV]
 have hxv:val x<B*V:=by have h3:=kY (l:=u) (i:=i) oM;have h4:=yO (u.getD i 0);have h5:=wQ B (show val (u.drop (i+1))+1<=V from h.lt);grind
 refine⟨e0,hxl,hpl,hxv,λhq=>?_⟩;obtain⟨r1,r2,r3⟩:=Df (pre:=pre) (x:=x) (post:=post) (V:=V) (n:=n+2) hxl hpost (by grind) hV h0 hq;have r3:val (pre++(pad (val x-q*V) (n+3)++post))+V*(B^pre.length*q)=val (pre++(x++post)):=r3;have hk:=h.kle;have hlo:=h.lo;refine⟨r1,by omega,?_,by grind,?_,?_⟩
 ·(have hpad:(pad (val x-q*V) (n+3)).length=n+3:=by refine sY (xP (Nat.sub_le _ _) ?_);grind [x8]);grind
 {grind};{have h6:=h.eq;grind [eV,x7,Nat.mod_eq_of_lt]}
def St (a b:List UInt32)(ha:a.length<2^39)(hb:b.length<2^39)(h0:val b≠0):zC 286 [nat a,nat b] (.tup [nat (zJ (val a/val b)),nat (zJ (val a%val b)),iV 0]):=by
 refine sI N8 rfl rfl rfl rfl rfl ?_;have ha':=xP (z5 a) ha;have hb':=xP (z5 b) hb;have hB:B=4294967296:=rfl;cbv;refine cA (aL a oM) ?_;cbv;refine cA (aL b oM) ?_;have hva:val (zJ (val a))=val a:=zP _;have hvb:val (zJ (val b))=val b:=zP _;have hca:=rY (val a);have hcb:=rY (val b);have hqne:(zJ (val b)).length≠0:=λe=>h0 (wD.1 (kD e));have hlen:¬val a<val b->(zJ (val b)).length<=(zJ (val a)).length:=by intro h;rcases kV (zJ (val a)).length (zJ (val b)).length with h1|h1;{exact absurd (Zq h1) h};omega
 generalize zJ (val a)=p at *;generalize zJ (val b)=q at *;cbv;refine zF (λh=>absurd (show q.length=0 by (try dsimp only [zV] at *);grind [zH]) hqne) (λh=>?_);cbv;refine cA (Hb p q oM oM) ?_;rw[hva,hvb];have hcmp:qT (val a) (val b)<0↔val a<val b:=by grind [qT]
 generalize qT (val a) (val b)=cm at *;cbv;refine zF (λh1=>?_) (λh1=>?_);{have hlt:=hcmp.1 h1;cbv;refine cA (D9 p oM) ?_;cbv;refine gJ rfl ?_ rfl;refine⟨yM ?_,zR ?_,lR,trivial⟩;{rw[JG hlt,y6];rfl};{rw[hva,kE hlt]}}
 ·have hge:¬val a<val b:=λe=>h1 (hcmp.2 e);have hlpq:=hlen hge;cbv;refine zF (λh2=>?_) (λh2=>?_)
  ·(have hq1:q.length=1:=by (try dsimp only [zV] at *);grind [zH]);cbv
   (refine xJ 0 rfl oM ?_;cbv;have hvq:val b=(q.getD 0 0).toNat:=by have:=z4 q 0;grind [val]);refine cA (Er p (q.getD 0 0).toNat oM (yO _) oM) ?_;cbv;refine gJ rfl ?_ rfl;exact⟨zR (by grind),zR (by grind),lR,trivial⟩
  ·(have hq2:q.length≠1:=by (try dsimp only [zV] at *);grind [zH]);obtain⟨n,hn⟩:∃ n,q.length=n+2:=⟨q.length-2,by omega⟩
   have htl:(q.getD (n+1) 0).toNat≠0:=by
    (intro e;have h3:=tT (l:=q) (λe=>by grind);have:q.getD (q.length-1) 0=0:=by rw[hn];exact Zt.1 e);grind
   (obtain⟨hs1,hs2,hs3⟩:=Hq htl (yO (q.getD (n+1) 0));have hbl:=cC (yO (q.getD (n+1) 0));cbv;refine⟨zD om om,xJ (n+1) om om ?_⟩;cbv;refine cA (Eq (q.getD (n+1) 0).toNat (yO _)) ?_;have hsi:(32:Int)-((Lib.bitLen (q.getD (n+1) 0).toNat:Nat):Int)=((32-Lib.bitLen (q.getD (n+1) 0).toNat:Nat):Int):=by omega);rw[hsi]
   generalize hsd:32-Lib.bitLen (q.getD (n+1) 0).toNat=s at *;cbv;refine kA (λ_=>55) (Ny p s oM hs1) ?_;cbv;refine kA (λ_=>58) (Ny q s oM hs1) ?_;cbv
   
   have hVlt:val q*2^s<B^(n+2):=by
    have h3:=z4 q (n+1);have h4:=w6 q (n+1);rw[yU oM] at h3;rw[h3,jI,fN,show B^(n+2)=B^(n+1)*B from uS _ _];have h5:=eK h4 (WX s);have h6:(q.getD (n+1) 0).toNat*2^s+2^s<=B:=by
     (obtain⟨z,hz⟩:2^s ∣ B:=⟨2^(32-s),by rw[<-bR];grind⟩;rw[hz,kI _ (2^s),<-QZ];refine wQ _ ?_;have:2^s*(q.getD (n+1) 0).toNat<2^s*z:=by grind);exact Nat.lt_of_mul_lt_mul_left this
    have h7:=wQ (B^(n+1)) h6;rw[qS] at h7;omega
   have hqge:=P8 hcb (n:=n+1) hn;have hVge:B^(n+1)*2^s<=val q*2^s:=kG _ hqge;have hVtop:B^(n+1)*2147483648<=val q*2^s:=by have h3:=z4 q (n+1);rw[yU oM] at h3;rw[h3,jI,fN];have:=wQ (B^(n+1)) hs2;omega
   (have hp2:=WX s;have hBn:=Nat.pow_pos (n:=n+1) w9;have hV0:0<val q*2^s:=by omega);have hvl:(zJ (val q*2^s)).length=n+2:=by have h3:=yF hVlt;have h4:=YK (n:=val q*2^s) (k:=n+1) oM;omega
   have hvv:=zP (val q*2^s);have hpl:=x8 p;have hA0:val ((pad (val p*2^s) (p.length+1)).drop (p.length-q.length+1))<val q*2^s:=by
    have hpx:val p*2^s<B^(p.length+1):=by rw[uS];refine uY (eK hpl hp2) (wQ _ ?_);exact pK (tB (show 1<2 by omega) hs1)
    (have h3:=eW (l:=pad (val p*2^s) (p.length+1)) (p.length-q.length+1) (by grind [sY]);rw[eU] at h3;have h4:B^p.length=B^(p.length-q.length+1)*B^(n+1):=by rw[<-bR];congr 1;omega);have h5:B^(p.length-q.length+1)*val ((pad (val p*2^s) (p.length+1)).drop (p.length-q.length+1))<B^(p.length-q.length+1)*(B^(n+1)*2^s):=by rw[<-fN,<-h4];have:=eK hpl hp2;omega
    have:=Nat.lt_of_mul_lt_mul_left h5;omega
   (have hpadl:(pad (val p*2^s) (p.length+1)).length=p.length+1:=by refine sY ?_;rw[uS];refine uY (eK hpl hp2) (wQ _ ?_);exact pK (tB (show 1<2 by omega) hs1));have hpadv:=eU (val p*2^s) (p.length+1);have hfrz:((lm (pad (val q*2^s) (q.length+1))).drop 0).take (q.length+1)=lm (pad (val q*2^s) (q.length+1)):=by rw[wZ];refine yU ?_;rw[zH,sY (bQ hVlt (by rw[hn];exact tB (by decide) oM))];omega
   have hpql:(pad (val q*2^s) (q.length+1)).length=q.length+1 :=
    sY (bQ hVlt (by rw[hn];exact tB (by decide) oM))
   have hvpq:=eU (val q*2^s) (q.length+1);generalize pad (val q*2^s) (q.length+1)=vq at *;generalize hU0:pad (val p*2^s) (p.length+1)=u0 at *;refine qR (.trans (.le (ps':=⟨[(0,nat p),(1,nat q),(9,iV s),(55,yX 55 1 (p.length+1)),(58,yX 58 1 (q.length+1))],[(55,xF 1 (lm u0)),(58,xF 1 (lm vq))]⟩) ?_ ?_ rfl) (.frz 58 rfl rfl ?_ ?_)) rfl (by refine⟨zR ?_,trivial⟩;omega) (aL vq oM) rfl ?_;{cbv;exact okA};{cbv;exact⟨zG rfl,zG rfl,trivial⟩};{cbv;refine⟨zZ ?_,trivial⟩;grind [zH]};{exact trivial};rw[hvpq];have hdiv:val a/val b=val p*2^s/(val q*2^s):=by grind [Nat.mul_div_mul_right]
   (have hmod:val p*2^s%(val q*2^s)=(val a%val b)*2^s:=by grind [Nat.mul_mod_mul_right]);clear hVge hqge hfrz
   (generalize hVV:val q*2^s=V at *;generalize zJ V=v at *;generalize hAA:val p*2^s=A at *;have hvt:=Dz hvl;rw[hvv] at hvt;have hvtl:=w6 v n;have hvtl1:=w6 v (n+1);have hvtop:=z4 v (n+1);rw[yU oM,hvv] at hvtop;have hnorm:B<=2*(v.getD (n+1) 0).toNat:=by rcases kV (2*(v.getD (n+1) 0).toNat) B with h3|h3;{exfalso;have h4:=wQ (B^(n+1)) (show (v.getD (n+1) 0).toNat+1<=2147483648 by omega);rw[qS] at h4;omega};omega);obtain⟨M,hM⟩:∃ M,M=p.length-q.length+1:=⟨_,rfl⟩;rw[<-hM] at hA0;cbv;refine⟨zD om om,zD om om,z8 om om,gU om om,zD om om,?_⟩;refine z7 (σ:=Nat×List UInt32×List UInt32) (λz=>⟨[(9,iV s),(10,yX 55 1 (p.length+1)),(11,nat v),(12,yX 66 1 M),(13,iV ((z.1:Int)-1))],[(55,xF 1 (lm z.2.1)),(66,xF 1 (lm z.2.2))]⟩)
    (λz=>DivInv A V (p.length+1) M z.1 z.2.1 z.2.2) (λz=>z.1) (M,u0,List.replicate M 0) ⟨yD _,hpadl,by simp,hA0,by grind [val]⟩ (.le ?_ ?_ rfl) ?_
   {cbv;exact⟨lR,lR,lR,zT rfl (by (try dsimp only [zV] at *);grind [zH]),zB (by (try dsimp only [zV] at *);grind [zH]),trivial⟩};{cbv;exact⟨zG rfl,zG (ZQ M _ (by (try dsimp only [zV] at *);grind [zH])),trivial⟩};intro z hz;generalize z.1=k at *;generalize z.2.1=u at *;generalize z.2.2=out at *;cbv;refine zF (λh3=>?_) (λh3=>?_)
   ·obtain⟨i,rfl⟩:∃ i,k=i+1:=⟨k-1,by exact om⟩;have hkle:=hz.kle;have hlo:=hz.lo;obtain⟨e0,hxl,hprel,hxv,hstep⟩:=BZ (n:=n) (q:=YB (val ((u.drop i).take (n+3))) V (lW (v.getD (n+1) 0).toNat (v.getD n 0).toNat ((((u.drop i).take (n+3))).getD n 0).toNat (((((u.drop i).take (n+3)).getD (n+2) 0).toNat*B+(((u.drop i).take (n+3)).getD (n+1) 0).toNat)/(v.getD (n+1) 0).toNat) (((((u.drop i).take (n+3)).getD (n+2) 0).toNat*B+(((u.drop i).take (n+3)).getD (n+1) 0).toNat)%(v.getD (n+1) 0).toNat))) hz hVlt hV0 oM;generalize (u.drop i).take (n+3)=x at *;generalize u.take i=pre at *;generalize u.drop (i+(n+3))=post at *;have hxt:=Dy hxl;have hxtl:=w6 x n;have hx2:=yO (x.getD n 0);have hv2:=yO (v.getD n 0);have hv1:=yO (v.getD (n+1) 0);have hx1:=yO (x.getD (n+1) 0);have hle:(x.getD (n+2) 0).toNat<=(v.getD (n+1) 0).toNat:=by rcases kV (v.getD (n+1) 0).toNat (x.getD (n+2) 0).toNat with h4|h4;{exfalso;have h5:=z4 x (n+2);rw[yU oM] at h5;have h6:=wQ (B^(n+2)) (show (v.getD (n+1) 0).toNat+1<=(x.getD (n+2) 0).toNat from h4);have h7:B*V<B*(B^(n+1)*((v.getD (n+1) 0).toNat+1)):=Nat.mul_lt_mul_of_pos_left (by rw[qS];omega) w9;rw[<-fN,show B*B^(n+1)=B^(n+2) by rw[uS B (n+1),kI]] at h7;omega};{exact h4}
    (have hS:=Eo pre x post v n hxl hvl oM oM hnorm hle;have htopv:0<(v.getD (n+1) 0).toNat:=by omega);have htop:(x.getD (n+2) 0).toNat*B+(x.getD (n+1) 0).toNat<(v.getD (n+1) 0).toNat*B+B:=by have:=kG B hle;omega
    have hq0:((x.getD (n+2) 0).toNat*B+(x.getD (n+1) 0).toNat)/(v.getD (n+1) 0).toNat<=B+1:=by
     (have h4:(x.getD (n+2) 0).toNat*B+(x.getD (n+1) 0).toNat<(B+2)*(v.getD (n+1) 0).toNat:=by rw[jI,kI B (v.getD (n+1) 0).toNat];omega);have:=(Zy htopv).2 h4;omega
    (have hr0:((x.getD (n+2) 0).toNat*B+(x.getD (n+1) 0).toNat)%(v.getD (n+1) 0).toNat<B:=bQ (vK _ htopv) hv1;have hE:=Jh (U:=val x) (V:=V) (P:=B^n) (ur:=val (x.take n)) (vr:=val (v.take n)) htopv hv2 hx2 hxt hvt hxtl hvtl hxv htop (B-((x.getD (n+2) 0).toNat*B+(x.getD (n+1) 0).toNat)%(v.getD (n+1) 0).toNat) _ _ (yD _) (BT htopv hxt hvt hxtl hx2) hr0 hq0;generalize lW (v.getD (n+1) 0).toNat (v.getD n 0).toNat (x.getD n 0).toNat (((x.getD (n+2) 0).toNat*B+(x.getD (n+1) 0).toNat)/(v.getD (n+1) 0).toNat) (((x.getD (n+2) 0).toNat*B+(x.getD (n+1) 0).toNat)%(v.getD (n+1) 0).toNat)=q0 at *;have hR:=Ep pre x post v (n+2) q0 hxl hvl oM oM hE.b (by rw[hvv];exact hE.hi);rw[hvv] at hR;have hdg:=B4 hV0 hE;obtain⟨hdB,hinv⟩:=hstep hdg;generalize YB (val x) V q0=d at *;have hi1:((i+1:Nat):Int)-1=(i:Int):=by omega);cbv
    (try dsimp only [zV] at *)
    refine⟨zD om om,zD om om,vF om om om,JW om ?_⟩;refine kW (λ_=>55) (.le (ps':=⟨[(9,iV s),(10,yX 55 1 (p.length+1)),(11,nat v),(12,yX 66 1 M),(13,iV i),(82,yX 66 1 M),(83,iV i),(84,.osl 55 1 (λ_=>pre.length) (λ_=>n+2+1)),(85,nat v),(86,.osl 55 1 (λ_=>pre.length) (λ_=>n+3)),(87,nat v)],[(55,xF 1 (lm (pre++(x++post)))),(66,xF 1 (lm out))]⟩) ?_ ?_ rfl) hS ?_;{cbv;refine⟨lR,lR,lR,lR,zB om,lR,zB om,zT ?_ ?_,lR,zT ?_ ?_,lR,trivial⟩ <;> ((try dsimp only [zV] at *);(try simp only[zH]);omega)};{cbv;exact⟨zG (by rw[e0]),zG rfl,trivial⟩};cbv;refine kA (λ_=>55) hR ?_;cbv;refine⟨xI om om,gM i (by simp) oM ?_⟩;cbv;refine⟨zD om om,(i,pre++(pad (val x-d*V) (n+2+1)++post),out.set i (UInt32.ofNat d)),hinv,Nat.lt_succ_self i,.le ?_ ?_ rfl⟩;{cbv;exact okA};{cbv;exact⟨zG rfl,zG (fI out (by simp) rfl hdB),trivial⟩}
   ·(have hk0:k=0:=by exact om);subst hk0
    (have hlo:=hz.lo;have hlu:=hz.lu;have heq:=hz.eq;have hlt:=hz.lt;rw[wZ,Nat.pow_zero,Nat.one_mul] at heq;rw[wZ] at hlt;have hQ:A/V=val out:=Nat.div_eq_of_lt_le (by grind) (by grind);have hRm:A%V=val u:=by rw[<-heq,Pm];exact kE hlt);cbv
    refine qR (.trans (.le (ps':=⟨[(9,iV s),(12,yX 66 1 M),(92,yX 55 1 (p.length+1)),(93,iV s)],[(55,xF 1 (lm u)),(66,xF 1 (lm out))]⟩) ?_ ?_ rfl) (.trans (.frz 55 rfl rfl ?_ ?_) (.frz 66 rfl rfl ?_ ?_))) rfl (by refine⟨zR ?_,lR,trivial⟩;grind [zH]) (En u s oM oM) rfl ?_;{cbv;exact okA};{cbv;exact⟨zG rfl,zG rfl,trivial⟩};{cbv;exact⟨zZ (by grind [zH]),trivial⟩};{exact trivial};{cbv;exact⟨zZ (by grind [zH]),trivial⟩};{exact trivial};cbv;refine yJ rfl (by refine⟨zR ?_,trivial⟩;grind [zH]) (aL out oM) rfl ?_;cbv;refine gJ rfl ?_ rfl;refine⟨zR ?_,zR ?_,lR,trivial⟩;{grind};grind [Nat.mul_div_cancel]
def kO {n m:Nat}(h:n<=m):(zJ n).length<=(zJ m).length:=by rcases kV (zJ m).length (zJ n).length with h1|h1;{have:=Zq h1;omega};omega
def Et (a b:List UInt32)(ha:a.length<2^39)(hb:b.length<2^39):zC 285 [nat a,nat b] (nat (zJ (Nat.gcd (val a) (val b)))):=by
 refine sF Tryz.f285 ?_;have ha':=xP (z5 a) ha;have hb':=xP (z5 b) hb;have hBB:B*B=18446744073709551616:=by decide
 generalize hg:Nat.gcd (val a) (val b)=g;cbv;refine cA (aL a oM) ?_;cbv;refine cA (aL b oM) ?_;cbv;refine z7 (σ:=Nat×Nat) (λz=>⟨[(0,nat (zJ z.1)),(1,nat (zJ z.2))],[]⟩) (λz=>(zJ z.1).length<2^39/\(zJ z.2).length<2^39/\Nat.gcd z.1 z.2=g) (λz=>z.2) (val a,val b) ⟨ha',hb',hg⟩ (.le ?_ trivial rfl) ?_;{cbv;exact okA};intro z hz;obtain⟨h1,h2,h3⟩:=hz;generalize z.1=x at *;generalize z.2=y at *;cbv;refine zF (λh4=>?_) (λh4=>?_)
 ·(cbv;have hy:y≠0:=λe=>by subst e;(try dsimp only [zV] at *);grind [lm,y6]);refine cA (St (zJ x) (zJ y) h1 h2 (by grind [zP])) ?_
  cbv;have hm:=vK x (pJ hy);refine⟨(y,x%y),⟨h2,xP (kO (pK hm)) h2,by grind [Nat.gcd_comm,Nat.gcd_rec]⟩,hm,.le ?_ trivial rfl⟩;cbv;exact⟨lR,zR (by grind [zP]),trivial⟩
 {have hy2:y<B*B:=C6.1 (by (try dsimp only [zV] at *);grind [zH]);cbv;refine zF (λh5=>?_) (λh5=>?_);{have hy:y=0:=wD.1 (kD (by (try dsimp only [zV] at *);grind [zH]));subst hy;cbv;refine cA (D9 (zJ x) oM) ?_;cbv;refine gJ rfl (zR ?_) rfl;rw[zP,<-h3,Nat.gcd_zero_right]};{have hy:y≠0:=λe=>h5 (by subst e;simp[lm,y6]);have hm:=vK x (pJ hy);cbv;refine cA (St (zJ x) (zJ y) h1 h2 (by grind [zP])) ?_;rw[zP,zP];cbv;refine cA (NB (zJ y) oM) ?_;rw[zP,if_pos hy2];cbv;refine cA (NB (zJ (x%y)) (xP (kO (pK hm)) oM)) ?_;rw[zP,if_pos oM];cbv;refine z7 (σ:=Nat×Nat) (λz=>⟨[(11,.int .u64 (λ_=>(z.1:Int))),(13,.int .u64 (λ_=>(z.2:Int)))],[]⟩) (λz=>z.1<B*B/\z.2<B*B/\Nat.gcd z.1 z.2=g) (λz=>z.2) (y,x%y) ⟨hy2,by omega,by grind [Nat.gcd_comm,Nat.gcd_rec]⟩ (.le ?_ trivial rfl) ?_;{cbv;exact okA};clear hm hy h3 h4 h5 h1 h2 hy2;intro z hz;obtain⟨h1,h2,h3⟩:=hz;generalize z.1=x at *;generalize z.2=y at *;cbv;refine zF (λh4=>?_) (λh4=>?_);{have hy:0<y:=om;have hm:=vK x hy;cbv;refine zM 5 (by cbv) ?_;cbv;refine⟨wG om,(y,x%y),⟨h2,by omega,by grind [Nat.gcd_comm,Nat.gcd_rec]⟩,hm,.le ?_ trivial rfl⟩;cbv;exact⟨lR,zB wH,trivial⟩};{have hy:y=0:=om;subst hy;cbv;refine cA (Su x h1) ?_;cbv;refine gJ rfl (zR ?_) rfl;grind}}}
end Go.Proofs.YtaeaffgjdcigoaaGreat
namespace Go.Proofs.YtaeaffgjdcigoaaGreat
structure R where
 neg:Bool
 num:List UInt32
 den:List UInt32
deriving DecidableEq
def sgn (b:Bool) (n:Nat):Int:=if b then -(n:Int) else n
def qJ (b:Bool)(n:Nat):(sgn b n).natAbs=n:=by grind [sgn]
def Kg (b:Bool):sgn b 0=0:=by cases b <;> rfl
def UN {b:Bool}{n:Nat}:sgn b n<0↔(b=true/\n≠0):=by grind [sgn]
def Xw (z:Int):sgn (decide (z<0)) z.natAbs=z:=by grind [sgn]
def UM (a b:Bool)(n m:Nat):sgn a n*sgn b m=sgn (a != b) (n*m):=by cases a <;> cases b <;> simp[sgn,Int.neg_mul,Int.mul_neg]
def Yl (a:Bool)(n m:Nat):sgn a n*(m:Int)=sgn a (n*m):=by grind [sgn]
def Gb (a:Bool)(n:Nat):sgn (!a) n=- sgn a n:=by grind [sgn]
def R.n (x:R):Int:=sgn x.neg (val x.num)
def R.d (x:R):Nat:=if val x.den=0 then 1 else val x.den
def R.q (x:R):Rat:=mkRat x.n x.d
theorem R.d_ne (x:R):x.d≠0:=by grind [R.d]
def zI (q:Rat):R:=⟨decide (q.num<0),zJ q.num.natAbs,if q.den=1 then [] else zJ q.den⟩
theorem CW (q:Rat):(zI q).n=q.num:=by simp only[R.n,zI,zP];exact Xw _
theorem Mz (q:Rat):(zI q).d=q.den:=by have:=q.den_pos;unfold R.d zI;by_cases h:q.den=1;{simp[h,val]};{simp only[h,if_false,zP];grind}
theorem z6 (q:Rat):(zI q).q=q:=by grind [R.q,CW,Mz,Rat.mkRat_self]
def uJ:zI 0=⟨false,[],[]⟩:=by simp[zI,y6]
def Gu {neg:Bool}{n d:Nat}(hd:d≠0):(mkRat (sgn neg n) d).num=sgn neg (n/Nat.gcd n d):=by rw[Rat.num_mkRat,if_neg hd,qJ,Nat.gcd_comm];grind [Int.natCast_dvd_natCast,Nat.gcd_dvd_left,sgn,Int.neg_ediv_of_dvd]
def Gv {neg:Bool}{n d:Nat}(hd:d≠0):(mkRat (sgn neg n) d).den=d/Nat.gcd n d:=by rw[Rat.den_mkRat,if_neg hd,qJ,Nat.gcd_comm]
def ZN {neg:Bool}{n d:Nat}(hd:d≠0):zI (mkRat (sgn neg n) d)=⟨neg&&decide (n≠0),zJ (n/Nat.gcd n d),if d/Nat.gcd n d=1 then [] else zJ (d/Nat.gcd n d)⟩:=by
 rw[zI,Gu hd,Gv hd,qJ];congr 1;rw[Bool.eq_iff_iff];have hg:0<Nat.gcd n d:=Nat.gcd_pos_of_pos_right n (Nat.pos_of_ne_zero hd);have h1:n/Nat.gcd n d=0↔n=0:=by rw[Nat.div_eq_zero_iff_lt hg];grind [Nat.gcd_le_left]
 simp only[decide_eq_true_eq,Bool.and_eq_true,UN,ne_eq,h1]
def CF (a b:R):a.q+b.q=mkRat (a.n*b.d+b.n*a.d) (a.d*b.d):=Rat.mkRat_add_mkRat _ _ a.d_ne b.d_ne
def Pa (a b:R):a.q*b.q=mkRat (a.n*b.n) (a.d*b.d):=Rat.mkRat_mul_mkRat _ _ _ _
def CD (a:R):(⟨!a.neg,a.num,a.den⟩:R).q=- a.q:=by simp only[R.q,R.n,R.d,Gb,Rat.neg_mkRat]
def oY {n:Int}{d:Nat}(hd:d≠0):0<=mkRat n d↔0<=n:=by rw[<-Rat.divInt_ofNat];exact Rat.divInt_nonneg_iff_of_pos_right (by omega)
def NR (a b:R):a.q-b.q=mkRat (a.n*b.d-b.n*a.d) (a.d*b.d):=by rw[Rat.sub_eq_add_neg,<-CD,CF];simp only[R.n,R.d,Gb,Int.neg_mul,Int.sub_eq_add_neg]
def EI (a b:R):a.q<=b.q↔a.n*b.d<=b.n*a.d:=by rw[Rat.le_iff_sub_nonneg,NR,oY (Nat.mul_ne_zero b.d_ne a.d_ne)];omega
def EH (a b:R):a.q<b.q↔a.n*b.d<b.n*a.d:=by rw[<-Rat.not_le,EI];omega
theorem FK (a:R):a.q=0↔a.n=0:=Rat.mkRat_eq_zero a.d_ne
theorem Ku (a:R):0<=a.q↔0<=a.n:=oY a.d_ne
def VT (a:R):a.q<0↔a.n<0:=by grind [Ku]
def NS (a:R):0<a.q↔0<a.n:=by grind [Ku,FK]
def yA (q:Rat):Int:=if q<0 then -1 else if 0<q then 1 else 0
def uV (a b:Rat):Int:=if a<b then -1 else if b<a then 1 else 0
def j1 (z:Int):Int:=if z<0 then -1 else if 0<z then 1 else 0
def YM (a b:Int):Int:=if a<b then -1 else if b<a then 1 else 0
def DP (a:R):yA a.q=j1 a.n:=by simp only[yA,j1,VT,NS]
def MB (a b:R):uV a.q b.q=YM (a.n*b.d) (b.n*a.d):=by simp only[uV,YM,EH]
structure Fits (k:Nat) (q:Rat):Prop where
 num:q.num.natAbs<B^k
 den:q.den<B^k
theorem Fits.mono {k m:Nat}{q:Rat}(h:Fits k q)(hm:k<=m):Fits m q :=
 ⟨Nat.lt_of_lt_of_le h.num (Nat.pow_le_pow_right w9 hm),Nat.lt_of_lt_of_le h.den (Nat.pow_le_pow_right w9 hm)⟩
theorem rB {k:Nat}{n:Int}{d:Nat}(hn:n.natAbs<B^k)(hd:d<B^k)(h0:d≠0):Fits k (mkRat n d):=by have hs:n=sgn (decide (n<0)) n.natAbs:=(Xw n).symm;rw[hs];refine⟨?_,?_⟩;{rw[Gu h0,qJ];exact Nat.lt_of_le_of_lt (Nat.div_le_self _ _) hn};{rw[Gv h0];exact Nat.lt_of_le_of_lt (Nat.div_le_self _ _) hd}
def Mj {k:Nat}{x:R}(h1:x.num.length<=k)(h2:x.den.length<=k)(hk:1<=k):Fits k x.q:=by refine rB ?_ ?_ x.d_ne;{rw[R.n,qJ];exact Nat.lt_of_lt_of_le (x8 _) (Nat.pow_le_pow_right w9 h1)};{unfold R.d;split;{exact Nat.lt_of_lt_of_le (show 1<B^1 by decide) (Nat.pow_le_pow_right w9 hk)};{exact Nat.lt_of_lt_of_le (x8 _) (Nat.pow_le_pow_right w9 h2)}}
theorem Fits.lnum {k:Nat}{q:Rat}(h:Fits k q):(zI q).num.length<=k:=yF h.num
theorem Fits.lden {k:Nat}{q:Rat}(h:Fits k q):(zI q).den.length<=k:=by unfold zI;by_cases h1:q.den=1;{simp[h1]};{simp only[h1,if_false];exact yF h.den}
def wA {a b k m:Nat}(ha:a<B^k)(hb:b<B^m):a*b<B^(k+m):=by rw[Nat.pow_add];exact Nat.mul_lt_mul'' ha hb
def y8 {k m:Nat}{a b:Rat}(ha:Fits k a)(hb:Fits m b):Fits (k+m) (a*b):=by rw[Rat.mul_def'];refine rB ?_ (wA ha.den hb.den) (Nat.mul_ne_zero a.den_nz b.den_nz);rw[Int.natAbs_mul];exact wA ha.num hb.num
theorem kC {k m:Nat}{a b:Rat}(ha:Fits k a)(hb:Fits m b):Fits (k+m+1) (a+b):=by rw[Rat.add_def'];have h1:=wA ha.num hb.den;have h2:=wA hb.num ha.den;rw[Nat.add_comm m k] at h2;have h3:B^(k+m+1)=B^(k+m)*B:=Nat.pow_succ _ _;have hd:=wA ha.den hb.den;have h5:B^(k+m)*2<=B^(k+m)*B:=Nat.mul_le_mul_left _ (by decide);refine rB ?_ ?_ (Nat.mul_ne_zero a.den_nz b.den_nz);{grind [Int.natAbs_add_le,Int.natAbs_mul]};omega
theorem qF {k:Nat}{a:Rat}(ha:Fits k a):Fits k (-a):=⟨by rw[Rat.neg_num,Int.natAbs_neg];exact ha.num,by rw[Rat.neg_den];exact ha.den⟩
def uC {k m:Nat}{a b:Rat}(ha:Fits k a)(hb:Fits m b):Fits (k+m+1) (a-b):=by grind [Rat.sub_eq_add_neg,kC,qF]
theorem uL {k:Nat}(hk:1<=k):Fits k 0 :=
 ⟨by simp;exact Nat.pow_pos w9,by simp;exact Nat.lt_of_lt_of_le (show 1<B^1 by decide) (Nat.pow_le_pow_right w9 hk)⟩
def Wu {k:Nat}{z:Int}(h:z.natAbs<B^k)(hk:1<=k):Fits k (z:Rat) :=
 ⟨by simp_all,by simp;exact Nat.lt_of_lt_of_le (show 1<B^1 by decide) (Nat.pow_le_pow_right w9 hk)⟩
def bI {k:Nat}{a:Rat}(ha:Fits k a):Fits k a⁻¹:=by
 refine⟨?_,?_⟩
 ·(rw[Rat.num_inv,Int.natAbs_mul];have h1:a.num.sign.natAbs<=1:=by grind);have h2:=ha.den
  grind
 {rw[Rat.den_inv];split;{have:=ha.den;simp_all};{exact ha.num}}
def R.ok (x:R):Bool:=decide (x=zI x.q)
theorem rS (q:Rat):(zI q).ok=true:=by simp[R.ok,z6]
end Go.Proofs.YtaeaffgjdcigoaaGreat
namespace Go.Proofs.YtaeaffgjdcigoaaGreat
open Go
set_option maxRecDepth 100000
def xW {nb:Bool}{objs:List (Nat×Obj')}{f:FuncId}{args args':List PV}{K:PV->Prop}{r:PV}(h2:jG les args args')(h3:zC f args' r)(h5:nmIn [] r=true)(h4:K r):CallS nb objs f args K:=⟨.inl ⟨args',r,lF h2,h3,h5,h4⟩⟩
def dA {nb:Bool}{objs:List (Nat×Obj')}{f:FuncId}{args args':List PV}{K:PV->Prop}{r:PV}(h3:zC f args' r)(h4:K r)(h2:jG les args args':=by exact okA)(h5:nmIn [] r=true:=by exact rfl):CallS nb objs f args K:=xW h2 h3 h5 h4
def dB (a b:List UInt32):(zJ (val a*val b)).length<=a.length+b.length:=yF (wA (x8 a) (x8 b))
def GR (a b:List UInt32):(zJ (val a+val b)).length<=a.length+b.length+1:=by refine yF ?_;have h1:=uY (x8 a) (dN w9 (Nat.le_add_right a.length b.length));have h2:=uY (x8 b) (dN w9 (Nat.le_add_left b.length a.length));have h3:B^(a.length+b.length)*2<=B^(a.length+b.length)*B:=wQ _ (by decide);rw[uS];omega
def YV (a b:List UInt32):(zJ (val a-val b)).length<=a.length:=yF (xP (Nat.sub_le _ _) (x8 a))
structure Z where
 neg:Bool
 mag:List UInt32
def Z.v (x:Z):Int:=sgn x.neg (val x.mag)
def wB (z:Int):Z:=⟨decide (z<0),zJ z.natAbs⟩
theorem dP (z:Int):(wB z).v=z:=by simp only[Z.v,wB,zP];exact Xw z
abbrev zv (x:Z):PV:=.agg [zL x.neg,nat x.mag]
def KW (neg:Bool)(n:Nat):wB (sgn neg n)=⟨neg&&decide (n≠0),zJ n⟩:=by simp only[wB,qJ];congr 1;rw[r8];simp only[decide_eq_true_eq,UN,yP]
def DO {b:Bool}{n:Nat}(h:¬sgn b n<0):sgn b n=(n:Int):=by cases b;{rfl};{simp only[sgn,if_true] at h ⊢;omega}
def Ca (neg:Bool)(m:List UInt32)(hm:m.length<2^40):zC 275 [zL neg,nat m] (zv (wB (sgn neg (val m)))):=by
 refine sF Tryz.f275 ?_;rw[KW];cbv;refine cA (D9 m hm) ?_;cbv;refine yB (λh=>?_) (λh=>?_)
 ·subst h;cbv
  (refine rC ?_;cbv)
  refine⟨zX ?_,lR,trivial⟩;rw[r8];simp only[decide_eq_true_eq,zH,yW];rw[<-@wD (val m),<-HX]
  (try dsimp only [zV] at *)
  omega
 {subst h;cbv;exact rA}
def EA (x:Int)(h1:-9223372036854775808<=x)(h2:x<9223372036854775808):zC 228 [iV x] (zv (wB x)):=by
 refine sF Tryz.f228 ?_;have hBB:B*B=18446744073709551616:=by decide
 have e:zv (wB x)=.agg [zL (decide (x<0)),nat (zJ x.natAbs)]:=rfl;rw[e];cbv;refine zF (λh=>?_) (λh=>?_)
 ·(have e1:nx .u64 (0-nx .u64 x)=((x.natAbs:Nat):Int):=by grind [uN]);generalize hn:x.natAbs=n at *
  cbv;refine yJ rfl (by exact⟨zB e1,trivial⟩) (Su n oM) rfl ?_;cbv
  (refine rC ?_;cbv)
  exact⟨yV (decide_eq_true h),lR,trivial⟩
 ·(have e1:nx .u64 x=((x.natAbs:Nat):Int):=by grind [uN]);generalize hn:x.natAbs=n at *
  cbv;refine yJ rfl (by exact⟨zB e1,trivial⟩) (Su n oM) rfl ?_;cbv
  (refine rC ?_;cbv)
  exact⟨zK (decide_eq_false h),lR,trivial⟩
def TC (x:Z)(hx:x.mag.length<2^40):zC 232 [zv x] (iV (j1 x.v)):=by
 refine sF Tryz.f232 ?_;obtain⟨neg,mag⟩:=x;have hv:Z.v ⟨neg,mag⟩=sgn neg (val mag):=rfl;rw[hv];have h0:((gO (val mag):Nat):Int)=0↔val mag=0:=by grind [lO]
 have hs:=NI mag hx;generalize gO (val mag)=b at h0 hs;generalize hS:j1 (sgn neg (val mag))=S at *;cbv;refine cA hs ?_;cbv;refine zF (λh=>?_) (λh=>?_)
 ·cbv
  (refine rC ?_;cbv)
  refine zB ?_;rw[<-hS,h0.1 h,Kg];rfl
 ·have hne:val mag≠0:=λe=>h (h0.2 e);cbv;refine zO (λh2=>?_) (λh2=>?_)
  ·subst h2;cbv
   (refine rC ?_;cbv)
   refine zB ?_;rw[<-hS,show sgn true (val mag)=-(val mag:Int) from rfl];unfold j1;omega
  ·subst h2;cbv
   (refine rC ?_;cbv)
   refine zB ?_;rw[<-hS,show sgn false (val mag)=(val mag:Int) from rfl];unfold j1;omega
def Ev (x y:Z)(hx:x.mag.length<2^40)(hy:y.mag.length<2^40):zC 244 [zv x,zv y] (iV (YM x.v y.v)):=by
 refine sF Tryz.f244 ?_;have hsx:=TC x hx;have hsy:=TC y hy;have hxv:x.v=sgn x.neg (val x.mag):=rfl;have hyv:y.v=sgn y.neg (val y.mag):=rfl;have h1:j1 x.v<j1 y.v->YM x.v y.v=-1:=by intro h;unfold j1 at h;unfold YM;split at h <;> split at h <;> (try split at h) <;> (try split at h) <;> first|(rw[if_pos oM])|omega
 have h2:j1 y.v<j1 x.v->YM x.v y.v=1:=by intro h;unfold j1 at h;unfold YM;split at h <;> split at h <;> (try split at h) <;> (try split at h) <;> first|(rw[if_neg oM,if_pos oM])|omega
 have h3:j1 x.v=j1 y.v->j1 x.v<0->YM x.v y.v=qT (val y.mag) (val x.mag):=by
  (intro h h';have a1:x.v<0:=by unfold j1 at h';split at h' <;> (try split at h') <;> omega);have a2:y.v<0:=by rw[h] at h';unfold j1 at h';split at h' <;> (try split at h') <;> omega
  rw[hxv,UN] at a1;rw[hyv,UN] at a2;rw[hxv,hyv,a1.1,a2.1];simp only[YM,qT,sgn,if_true];omega
 have h4:j1 x.v=j1 y.v->¬j1 x.v<0->YM x.v y.v=qT (val x.mag) (val y.mag):=by
  (intro h h';have a1:¬x.v<0:=by unfold j1 at h';split at h' <;> (try split at h') <;> omega);have a2:¬y.v<0:=by rw[h] at h';unfold j1 at h';split at h' <;> (try split at h') <;> omega
  (have b1:x.v=(val x.mag:Int):=by rw[hxv] at a1 ⊢;exact DO a1);have b2:y.v=(val y.mag:Int):=by rw[hyv] at a2 ⊢;exact DO a2
  grind [YM,qT]
 generalize YM x.v y.v=C at *;generalize j1 x.v=s at *;generalize j1 y.v=t at *;cbv;refine zM 4 (by cbv) ?_;cbv;refine dA hsx ?_;cbv;refine dA hsy ?_;cbv;refine zF (λh=>?_) (λh=>?_)
 ·cbv
  (refine rC ?_;cbv)
  exact zB (h1 h).symm
 ·cbv;refine zF (λh'=>?_) (λh'=>?_)
  ·cbv
   (refine rC ?_;cbv)
   exact zB (h2 h').symm
  ·(have he:s=t:=by omega);cbv
   refine zF (λh5=>?_) (λh5=>?_);{have h6:=h3 he h5;have h7:=Hb y.mag x.mag hy hx;rw[<-h6] at h7;cbv;refine cA h7 ?_;cbv;exact rA};{have h6:=h4 he h5;have h7:=Hb x.mag y.mag hx hy;rw[<-h6] at h7;cbv;refine cA h7 ?_;cbv;exact rA}
def Ex (x y:Z)(hx:x.mag.length<2^38)(hy:y.mag.length<2^38):zC 287 [zv x,zv y] (zv (wB (x.v+y.v))):=by
 refine sF Tryz.f287 ?_;obtain⟨n1,m1⟩:=x;obtain⟨n2,m2⟩:=y;have hv:Z.v ⟨n1,m1⟩+Z.v ⟨n2,m2⟩=sgn n1 (val m1)+sgn n2 (val m2):=rfl;have hl:=GR m1 m2;have hl1:=YV m1 m2;have hl2:=YV m2 m1;have hx':m1.length<2^38:=hx;have hy':m2.length<2^38:=hy;rw[hv];have c1:n1=n2->zC 275 [zL n1,nat (zJ (val m1+val m2))] (zv (wB (sgn n1 (val m1)+sgn n2 (val m2)))):=by intro h;have:=Ca n1 (zJ (val m1+val m2)) oM;rw[zP] at this;grind [sgn]
 have c2:n1≠n2->¬qT (val m1) (val m2)<0->zC 275 [zL n1,nat (zJ (val m1-val m2))] (zv (wB (sgn n1 (val m1)+sgn n2 (val m2)))):=by
  intro h h';have hge:val m2<=val m1:=by unfold qT at h';omega
  (have:=Ca n1 (zJ (val m1-val m2)) oM;rw[zP] at this;have e:sgn n1 (val m1-val m2)=sgn n1 (val m1)+sgn n2 (val m2):=by grind [sgn]);grind
 have c3:n1≠n2->qT (val m1) (val m2)<0->zC 275 [zL n2,nat (zJ (val m2-val m1))] (zv (wB (sgn n1 (val m1)+sgn n2 (val m2)))):=by
  intro h h';have hge:val m1<=val m2:=by unfold qT at h';omega
  (have:=Ca n2 (zJ (val m2-val m1)) oM;rw[zP] at this;have e:sgn n2 (val m2-val m1)=sgn n1 (val m1)+sgn n2 (val m2):=by grind [sgn]);simp_all
 have c0:=Hb m1 m2 oM oM;generalize qT (val m1) (val m2)=cm at *;generalize sgn n1 (val m1)+sgn n2 (val m2)=T at *;cbv;refine zF (λh=>?_) (λh=>?_);{have h':=c1 h;generalize wB T=W at *;cbv;refine zM 8 (by cbv) ?_;cbv;refine dA (Eu m1 m2 oM oM) ?_;cbv;refine dA h' ?_;cbv;exact rA};{have h2:=c2 h;have h3:=c3 h;generalize wB T=W at *;cbv;refine cA c0 ?_;cbv;refine zF (λh4=>?_) (λh4=>?_);{cbv;refine cA (NE m2 m1 oM oM) ?_;cbv;refine cA (h3 h4) ?_;cbv;exact rA};{cbv;refine cA (NE m1 m2 oM oM) ?_;cbv;refine cA (h2 h4) ?_;cbv;exact rA}}
def NF (x y:Z)(hx:x.mag.length<2^38)(hy:y.mag.length<2^38):zC 279 [zv x,zv y] (zv (wB (x.v*y.v))):=by
 refine sF Tryz.f279 ?_;obtain⟨n1,m1⟩:=x;obtain⟨n2,m2⟩:=y;have hl:=dB m1 m2;have hx':m1.length<2^38:=hx;have hy':m2.length<2^38:=hy;have hv:Z.v ⟨n1,m1⟩*Z.v ⟨n2,m2⟩=sgn (n1 != n2) (val m1*val m2):=UM _ _ _ _;rw[hv];have c1:=Ca (n1 != n2) (zJ (val m1*val m2)) oM;rw[zP] at c1;have hb:(n1 != n2)=!decide (n1=n2):=by grind
 generalize wB (sgn (n1 != n2) (val m1*val m2))=W at *;generalize hnb:(n1 != n2)=nb at *;cbv;refine zM 11 (by cbv) ?_;cbv;refine dA (Sw m1 m2 oM oM) ?_;cbv;refine xW (by exact⟨yY hb,lR,trivial⟩) c1 rfl ?_;cbv;exact rA
end Go.Proofs.YtaeaffgjdcigoaaGreat
