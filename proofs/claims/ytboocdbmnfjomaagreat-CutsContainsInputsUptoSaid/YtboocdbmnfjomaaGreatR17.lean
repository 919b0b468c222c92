/- A part of the proof: NtI, NtJ, PnC, IgA. -/
import Derived.Test.YtboocdbmnfjomaaGreatR16
import Derived.Test.YtboocdbmnfjomaaGreatR14
set_option linter.all false
namespace Go.Proofs.YtboocdbmnfjomaaGreat
open Go
set_option maxRecDepth 100000
def YK {g:Operand}{as_:List Operand}{dst:Option Nat}{ps ps':PS}{K:PS->Prop}{f:FuncId}{caps cargs:List PV}{kept eaten:List (Nat×Obj')}{r:PV}{kept' made:List (Nat×Obj')}(hn:Nat->Nat)(hw:Wk ps ps') (h1:ev (zD ps'.tmps) g=.fn f caps) (h2:jH les (evs (ev (zD ps'.tmps)) as_++caps) (i4 hn cargs)) (h3:Sound f cargs kept eaten r kept' made) (h4:uH hn ps'.objs (kept++eaten)) (h5:ndO (yC hn (kept++eaten))=true) (h5':ndO (kept++eaten)=true) (h6:cZ (bY (kept'++made)) (kept'++made)=true) (h7:ndO (yC hn made)=true) (h8:aR hn (r5 hn eaten ps') made=true) (h9:y4 lv cargs=true) (h10:lv r=true) (h11:nmIn (bY (kept'++made)) r=true) (h12:K (put (aK hn eaten kept' made ps') dst (ren hn r))):CallOk g as_ dst ps K :=
 ⟨ps',hw,f,caps,h1,.inr ⟨hn,cargs,kept,eaten,r,kept',made,tQ h2,h3,h4,h5,h5',h6,h7,h8,h9,h10,h11,h12⟩⟩
def kA {g:Operand}{as_:List Operand}{dst:Option Nat}{ps:PS}{K:PS->Prop}{f:FuncId}{caps cargs:List PV}{kept eaten:List (Nat×Obj')}{r:PV}{kept' made:List (Nat×Obj')}(hn:Nat->Nat)(h3:Sound f cargs kept eaten r kept' made)(h12:K (put (aK hn eaten kept' made ps) dst (ren hn r)))(h1:ev (zD ps.tmps) g=.fn f caps:=by exact rfl)(h2:jH les (evs (ev (zD ps.tmps)) as_++caps) (i4 hn cargs):=by exact okA)(h4:uH hn ps.objs (kept++eaten):=by exact okR)(h5:ndO (yC hn (kept++eaten))=true:=by exact rfl)(h5':ndO (kept++eaten)=true:=by exact rfl)(h6:cZ (bY (kept'++made)) (kept'++made)=true:=by exact rfl)(h7:ndO (yC hn made)=true:=by exact rfl)(h8:aR hn (r5 hn eaten ps) made=true:=by exact rfl)(h9:y4 lv cargs=true:=by exact rfl)(h10:lv r=true:=by exact rfl)(h11:nmIn (bY (kept'++made)) r=true:=by exact rfl):CallOk g as_ dst ps K:=YK hn (.refl _) h1 h2 h3 h4 h5 h5' h6 h7 h8 h9 h10 h11 h12
def kW {g:Operand}{as_:List Operand}{dst:Option Nat}{ps ps':PS}{K:PS->Prop}{f:FuncId}{caps cargs:List PV}{kept eaten:List (Nat×Obj')}{r:PV}{kept' made:List (Nat×Obj')}(hn:Nat->Nat)(hw:Wk ps ps')(h3:Sound f cargs kept eaten r kept' made)(h12:K (put (aK hn eaten kept' made ps') dst (ren hn r)))(h1:ev (zD ps'.tmps) g=.fn f caps:=by exact rfl)(h2:jH les (evs (ev (zD ps'.tmps)) as_++caps) (i4 hn cargs):=by exact okA)(h4:uH hn ps'.objs (kept++eaten):=by exact okR)(h5:ndO (yC hn (kept++eaten))=true:=by exact rfl)(h5':ndO (kept++eaten)=true:=by exact rfl)(h6:cZ (bY (kept'++made)) (kept'++made)=true:=by exact rfl)(h7:ndO (yC hn made)=true:=by exact rfl)(h8:aR hn (r5 hn eaten ps') made=true:=by exact rfl)(h9:y4 lv cargs=true:=by exact rfl)(h10:lv r=true:=by exact rfl)(h11:nmIn (bY (kept'++made)) r=true:=by exact rfl):CallOk g as_ dst ps K:=YK hn hw h1 h2 h3 h4 h5 h5' h6 h7 h8 h9 h10 h11 h12
def kB {g:Operand}{as_:List Operand}{dst:Option Nat}{ps ps':PS}{K:PS->Prop}{f:FuncId}{caps cargs:List PV}{kept eaten:List (Nat×Obj')}{r:PV}{kept' made:List (Nat×Obj')}(hn:Nat->Nat)(hw:Wk ps ps')(h1:ev (zD ps'.tmps) g=.fn f caps)(h2:jH les (evs (ev (zD ps'.tmps)) as_++caps) (i4 hn cargs))(h3:Sound f cargs kept eaten r kept' made)(h12:K (put (aK hn eaten kept' made ps') dst (ren hn r)))(h4:uH hn ps'.objs (kept++eaten):=by exact okR)(h5:ndO (yC hn (kept++eaten))=true:=by exact rfl)(h5':ndO (kept++eaten)=true:=by exact rfl)(h6:cZ (bY (kept'++made)) (kept'++made)=true:=by exact rfl)(h7:ndO (yC hn made)=true:=by exact rfl)(h8:aR hn (r5 hn eaten ps') made=true:=by exact rfl)(h9:y4 lv cargs=true:=by exact rfl)(h10:lv r=true:=by exact rfl)(h11:nmIn (bY (kept'++made)) r=true:=by exact rfl):CallOk g as_ dst ps K:=YK hn hw h1 h2 h3 h4 h5 h5' h6 h7 h8 h9 h10 h11 h12
def Yg:∀ (n x:Nat),x<=n->x<4294967296->x<2^Lib.bitLen x
 |0,x,h,_=>by
  (have:x=0:=by omega);subst this
  exact eW _
 |n+1,x,h,hx=>by rcases mD x with e|e;{subst e;exact eW _};{rw[Lib.bitLen_half x oM oM,YP,uL];have:=Yg n (x/2) oM oM;omega}
def Ca {x:Nat}(h:x≠0)(hx:x<4294967296):2^(Lib.bitLen x-1)<=x:=by rcases kO x (2^(Lib.bitLen x-1)) with h1|h1;{have h2:=Lib.bitLen_le x (Lib.bitLen x-1) (by grind [bE]) h1;grind};omega
def HZ {x:Nat}(h:x≠0)(hx:x<4294967296):32-Lib.bitLen x<32/\2147483648<=x*2^(32-Lib.bitLen x)/\x*2^(32-Lib.bitLen x)<4294967296:=by have h1:=Ca h hx;have h2:=Yg x x (yX _) hx;have h3:=bE hx;have h4:=Ve h hx;generalize Lib.bitLen x=k at *;refine⟨by omega,?_,?_⟩;{have h5:=uU (2^(32-k)) h1;rw[<-j4] at h5;grind};{have h5:=eS h2 (eW (32-k));rw[<-j4] at h5;grind}
def Eb:Pg.funcs[199]?=some Tryz.f199:=by rw[uM];rfl
def Ma {p:List UInt32}(hc:bV p=true){n:Nat}(hl:p.length=n+1):B^n<=val p:=by
 have hne:p≠[]:=λe=>by grind
 have h1:=t5 hne;rw[hc] at h1;have h2:(p.getD n 0).toNat≠0:=by
  (intro e;have:p.getD (p.length-1) 0=0:=by rw[hl];exact ZA.1 e);grind
 have h3:=z9 p n;rw[yW oM] at h3;have:=wL (B^n) (show 1<=(p.getD n 0).toNat by omega);omega
structure DivInv (A V N M:Nat) (k:Nat) (u out:List UInt32):Prop where
 kle:k<=M
 lu:u.length=N
 lo:out.length=M
 lt:val (u.drop k)<V
 eq:val u+V*(B^k*val (out.drop k))=A
def AY {A V N M i n q:Nat}{u out:List UInt32}(h:DivInv A V N M (i+1) u out)(hV:V<B^(n+2))(h0:0<V)(hN:i+n+3<=N):let x:=(u.drop i).take (n+3)
  let pre:=u.take i
  let post:=u.drop (i+(n+3))
  u=pre++(x++post)/\x.length=n+3/\pre.length=i/\val x<B*V/\(q=val x/V->q<B/\DivInv A V N M i (pre++(pad (val x-q*V) (n+3)++post)) (out.set i (UInt32.ofNat q))):=by
 intro x pre post;have hlu:=h.lu;have e1:x++post=u.drop i:=by show (u.drop i).take (n+3)++u.drop (i+(n+3))=u.drop i;rw[<-eT,UT]
 have e0:u=pre++(x++post):=by grind [List.take_append_drop]
 have hxl:x.length=n+3:=by show ((u.drop i).take (n+3)).length=_;rw[vG,mI];omega
 have hpl:pre.length=i:=by grind
 have hpost:val post=0:=by have h2:=Xn (l:=u.drop (i+1)) (n+2) (by rw[mI];omega) (gM h.lt hV);grind [List.drop_drop]
 have hdi:val (u.drop i)=val x:=by grind [vQ]
 have hxv:val x<B*V:=by have h3:=jL (l:=u) (i:=i) oM;have h4:=yV (u.getD i 0);have h5:=wL B (show val (u.drop (i+1))+1<=V from h.lt);grind
 refine⟨e0,hxl,hpl,hxv,λhq=>?_⟩;obtain⟨r1,r2,r3⟩:=D5 (pre:=pre) (x:=x) (post:=post) (V:=V) (n:=n+2) hxl hpost (by grind) hV h0 hq;have r3:val (pre++(pad (val x-q*V) (n+3)++post))+V*(B^pre.length*q)=val (pre++(x++post)):=r3;have hk:=h.kle;have hlo:=h.lo;refine⟨r1,by omega,?_,by grind,?_,?_⟩
 ·(have hpad:(pad (val x-q*V) (n+3)).length=n+3:=by refine sS (xQ (Nat.sub_le _ _) ?_);grind [x8]);grind
 {grind};{have h6:=h.eq;grind [oD,x6,Nat.mod_eq_of_lt]}
def RM (a b:List UInt32)(ha:a.length<2^39)(hb:b.length<2^39)(h0:val b≠0):zE 199 [nat a,nat b] (.tup [nat (zL (val a/val b)),nat (zL (val a%val b)),iV 0]):=by
 refine xR Eb rfl rfl rfl rfl rfl ?_;have ha':=xQ (yA a) ha;have hb':=xQ (yA b) hb;have hB:B=4294967296:=rfl;cbv;refine cA (aI a oM) ?_;cbv;refine cA (aI b oM) ?_;have hva:val (zL (val a))=val a:=zQ _;have hvb:val (zL (val b))=val b:=zQ _;have hca:=rR (val a);have hcb:=rR (val b);have hqne:(zL (val b)).length≠0:=λe=>h0 (wD.1 (gX e));have hlen:¬val a<val b->(zL (val b)).length<=(zL (val a)).length:=by intro h;rcases kO (zL (val a)).length (zL (val b)).length with h1|h1;{exact absurd (Zw h1) h};omega
 generalize zL (val a)=p at *;generalize zL (val b)=q at *;cbv;refine zH (λh=>absurd (show q.length=0 by (try dsimp only [z6] at *);grind [zJ]) hqne) (λh=>?_);cbv;refine cA (HL p q oM oM) ?_;rw[hva,hvb];have hcmp:qZ (val a) (val b)<0↔val a<val b:=by grind [qZ]
 generalize qZ (val a) (val b)=cm at *;cbv;refine zH (λh1=>?_) (λh1=>?_);{have hlt:=hcmp.1 h1;cbv;refine cA (Bh p oM) ?_;cbv;refine jT rfl ?_ rfl;refine⟨xD ?_,zT ?_,lR,trivial⟩;{rw[Hd hlt,yY];rfl};{rw[hva,kP hlt]}}
 ·have hge:¬val a<val b:=λe=>h1 (hcmp.2 e);have hlpq:=hlen hge;cbv;refine zH (λh2=>?_) (λh2=>?_)
  ·(have hq1:q.length=1:=by (try dsimp only [z6] at *);grind [zJ]);cbv
   (refine xM 0 rfl oM ?_;cbv;have hvq:val b=(q.getD 0 0).toNat:=by have:=z9 q 0;grind [val]);refine cA (EJ p (q.getD 0 0).toNat oM (yV _) oM) ?_;cbv;refine jT rfl ?_ rfl;exact⟨zT (by grind),zT (by grind),lR,trivial⟩
  ·(have hq2:q.length≠1:=by (try dsimp only [z6] at *);grind [zJ]);obtain⟨n,hn⟩:∃ n,q.length=n+2:=⟨q.length-2,by omega⟩
   have htl:(q.getD (n+1) 0).toNat≠0:=by
    (intro e;have h3:=t5 (l:=q) (λe=>by grind);have:q.getD (q.length-1) 0=0:=by rw[hn];exact ZA.1 e);grind
   (obtain⟨hs1,hs2,hs3⟩:=HZ htl (yV (q.getD (n+1) 0));have hbl:=bE (yV (q.getD (n+1) 0));cbv;refine⟨zF om om,xM (n+1) om om ?_⟩;cbv;refine cA (EI (q.getD (n+1) 0).toNat (yV _)) ?_;have hsi:(32:Int)-((Lib.bitLen (q.getD (n+1) 0).toNat:Nat):Int)=((32-Lib.bitLen (q.getD (n+1) 0).toNat:Nat):Int):=by omega);rw[hsi]
   generalize hsd:32-Lib.bitLen (q.getD (n+1) 0).toNat=s at *;cbv;refine kA (λ_=>55) (LC p s oM hs1) ?_;cbv;refine kA (λ_=>58) (LC q s oM hs1) ?_;cbv
   
   have hVlt:val q*2^s<B^(n+2):=by
    have h3:=z9 q (n+1);have h4:=vA q (n+1);rw[yW oM] at h3;rw[h3,jR,gI,show B^(n+2)=B^(n+1)*B from uL _ _];have h5:=eS h4 (eW s);have h6:(q.getD (n+1) 0).toNat*2^s+2^s<=B:=by
     (obtain⟨z,hz⟩:2^s ∣ B:=⟨2^(32-s),by rw[<-j4];grind⟩;rw[hz,jI _ (2^s),<-Yk];refine wL _ ?_;have:2^s*(q.getD (n+1) 0).toNat<2^s*z:=by grind);exact Nat.lt_of_mul_lt_mul_left this
    have h7:=wL (B^(n+1)) h6;rw[kV] at h7;omega
   have hqge:=Ma hcb (n:=n+1) hn;have hVge:B^(n+1)*2^s<=val q*2^s:=uU _ hqge;have hVtop:B^(n+1)*2147483648<=val q*2^s:=by have h3:=z9 q (n+1);rw[yW oM] at h3;rw[h3,jR,gI];have:=wL (B^(n+1)) hs2;omega
   (have hp2:=eW s;have hBn:=Kq (n:=n+1) uB;have hV0:0<val q*2^s:=by omega);have hvl:(zL (val q*2^s)).length=n+2:=by have h3:=yM hVlt;have h4:=YT (n:=val q*2^s) (k:=n+1) oM;omega
   have hvv:=zQ (val q*2^s);have hpl:=x8 p;have hA0:val ((pad (val p*2^s) (p.length+1)).drop (p.length-q.length+1))<val q*2^s:=by
    have hpx:val p*2^s<B^(p.length+1):=by rw[uL];refine jJ (eS hpl hp2) (wL _ ?_);exact mC (bI (show 1<2 by omega) hs1)
    (have h3:=oE (l:=pad (val p*2^s) (p.length+1)) (p.length-q.length+1) (by grind [sS]);rw[oC] at h3;have h4:B^p.length=B^(p.length-q.length+1)*B^(n+1):=by rw[<-j4];congr 1;omega);have h5:B^(p.length-q.length+1)*val ((pad (val p*2^s) (p.length+1)).drop (p.length-q.length+1))<B^(p.length-q.length+1)*(B^(n+1)*2^s):=by rw[<-gI,<-h4];have:=eS hpl hp2;omega
    have:=Nat.lt_of_mul_lt_mul_left h5;omega
   (have hpadl:(pad (val p*2^s) (p.length+1)).length=p.length+1:=by refine sS ?_;rw[uL];refine jJ (eS hpl hp2) (wL _ ?_);exact mC (bI (show 1<2 by omega) hs1));have hpadv:=oC (val p*2^s) (p.length+1);have hfrz:((lm (pad (val q*2^s) (q.length+1))).drop 0).take (q.length+1)=lm (pad (val q*2^s) (q.length+1)):=by rw[v5];refine yW ?_;rw[zJ,sS (gM hVlt (by rw[hn];exact bI (by decide) oM))];omega
   have hpql:(pad (val q*2^s) (q.length+1)).length=q.length+1 :=
    sS (gM hVlt (by rw[hn];exact bI (by decide) oM))
   have hvpq:=oC (val q*2^s) (q.length+1);generalize pad (val q*2^s) (q.length+1)=vq at *;generalize hU0:pad (val p*2^s) (p.length+1)=u0 at *;refine j2 (.trans (.le (ps':=⟨[(0,nat p),(1,nat q),(9,iV s),(55,zW 55 1 (p.length+1)),(58,zW 58 1 (q.length+1))],[(55,z5 1 (lm u0)),(58,z5 1 (lm vq))]⟩) ?_ ?_ rfl) (.frz 58 rfl rfl ?_ ?_)) rfl (by refine⟨zT ?_,trivial⟩;omega) (aI vq oM) rfl ?_;{cbv;exact okA};{cbv;exact⟨zC rfl,zC rfl,trivial⟩};{cbv;refine⟨yB ?_,trivial⟩;grind [zJ]};{exact trivial};rw[hvpq];have hdiv:val a/val b=val p*2^s/(val q*2^s):=by grind [Nat.mul_div_mul_right]
   (have hmod:val p*2^s%(val q*2^s)=(val a%val b)*2^s:=by grind [Nat.mul_mod_mul_right]);clear hVge hqge hfrz
   (generalize hVV:val q*2^s=V at *;generalize zL V=v at *;generalize hAA:val p*2^s=A at *;have hvt:=Ck hvl;rw[hvv] at hvt;have hvtl:=vA v n;have hvtl1:=vA v (n+1);have hvtop:=z9 v (n+1);rw[yW oM,hvv] at hvtop;have hnorm:B<=2*(v.getD (n+1) 0).toNat:=by rcases kO (2*(v.getD (n+1) 0).toNat) B with h3|h3;{exfalso;have h4:=wL (B^(n+1)) (show (v.getD (n+1) 0).toNat+1<=2147483648 by omega);rw[kV] at h4;omega};omega);obtain⟨M,hM⟩:∃ M,M=p.length-q.length+1:=⟨_,rfl⟩;rw[<-hM] at hA0;cbv;refine⟨zF om om,zF om om,z3 om om,uW om om,zF om om,?_⟩;refine zZ (σ:=Nat×List UInt32×List UInt32) (λz=>⟨[(9,iV s),(10,zW 55 1 (p.length+1)),(11,nat v),(12,zW 66 1 M),(13,iV ((z.1:Int)-1))],[(55,z5 1 (lm z.2.1)),(66,z5 1 (lm z.2.2))]⟩)
    (λz=>DivInv A V (p.length+1) M z.1 z.2.1 z.2.2) (λz=>z.1) (M,u0,List.replicate M 0) ⟨yX _,hpadl,by simp,hA0,by grind [val]⟩ (.le ?_ ?_ rfl) ?_
   {cbv;exact⟨lR,lR,lR,zR rfl (by (try dsimp only [z6] at *);grind [zJ]),zG (by (try dsimp only [z6] at *);grind [zJ]),trivial⟩};{cbv;exact⟨zC rfl,zC (Z1 M _ (by (try dsimp only [z6] at *);grind [zJ])),trivial⟩};intro z hz;generalize z.1=k at *;generalize z.2.1=u at *;generalize z.2.2=out at *;cbv;refine zH (λh3=>?_) (λh3=>?_)
   ·obtain⟨i,rfl⟩:∃ i,k=i+1:=⟨k-1,by exact om⟩;have hkle:=hz.kle;have hlo:=hz.lo;obtain⟨e0,hxl,hprel,hxv,hstep⟩:=AY (n:=n) (q:=YI (val ((u.drop i).take (n+3))) V (iA (v.getD (n+1) 0).toNat (v.getD n 0).toNat ((((u.drop i).take (n+3))).getD n 0).toNat (((((u.drop i).take (n+3)).getD (n+2) 0).toNat*B+(((u.drop i).take (n+3)).getD (n+1) 0).toNat)/(v.getD (n+1) 0).toNat) (((((u.drop i).take (n+3)).getD (n+2) 0).toNat*B+(((u.drop i).take (n+3)).getD (n+1) 0).toNat)%(v.getD (n+1) 0).toNat))) hz hVlt hV0 oM;generalize (u.drop i).take (n+3)=x at *;generalize u.take i=pre at *;generalize u.drop (i+(n+3))=post at *;have hxt:=Cj hxl;have hxtl:=vA x n;have hx2:=yV (x.getD n 0);have hv2:=yV (v.getD n 0);have hv1:=yV (v.getD (n+1) 0);have hx1:=yV (x.getD (n+1) 0);have hle:(x.getD (n+2) 0).toNat<=(v.getD (n+1) 0).toNat:=by rcases kO (v.getD (n+1) 0).toNat (x.getD (n+2) 0).toNat with h4|h4;{exfalso;have h5:=z9 x (n+2);rw[yW oM] at h5;have h6:=wL (B^(n+2)) (show (v.getD (n+1) 0).toNat+1<=(x.getD (n+2) 0).toNat from h4);have h7:B*V<B*(B^(n+1)*((v.getD (n+1) 0).toNat+1)):=Nat.mul_lt_mul_of_pos_left (by rw[kV];omega) uB;rw[<-gI,show B*B^(n+1)=B^(n+2) by rw[uL B (n+1),jI]] at h7;omega};{exact h4}
    (have hS:=EG pre x post v n hxl hvl oM oM hnorm hle;have htopv:0<(v.getD (n+1) 0).toNat:=by omega);have htop:(x.getD (n+2) 0).toNat*B+(x.getD (n+1) 0).toNat<(v.getD (n+1) 0).toNat*B+B:=by have:=uU B hle;omega
    have hq0:((x.getD (n+2) 0).toNat*B+(x.getD (n+1) 0).toNat)/(v.getD (n+1) 0).toNat<=B+1:=by
     (have h4:(x.getD (n+2) 0).toNat*B+(x.getD (n+1) 0).toNat<(B+2)*(v.getD (n+1) 0).toNat:=by rw[jR,jI B (v.getD (n+1) 0).toNat];omega);have:=(ZC htopv).2 h4;omega
    (have hr0:((x.getD (n+2) 0).toNat*B+(x.getD (n+1) 0).toNat)%(v.getD (n+1) 0).toNat<B:=gM (uF _ htopv) hv1;have hE:=JQ (U:=val x) (V:=V) (P:=B^n) (ur:=val (x.take n)) (vr:=val (v.take n)) htopv hv2 hx2 hxt hvt hxtl hvtl hxv htop (B-((x.getD (n+2) 0).toNat*B+(x.getD (n+1) 0).toNat)%(v.getD (n+1) 0).toNat) _ _ (yX _) (AN htopv hxt hvt hxtl hx2) hr0 hq0;generalize iA (v.getD (n+1) 0).toNat (v.getD n 0).toNat (x.getD n 0).toNat (((x.getD (n+2) 0).toNat*B+(x.getD (n+1) 0).toNat)/(v.getD (n+1) 0).toNat) (((x.getD (n+2) 0).toNat*B+(x.getD (n+1) 0).toNat)%(v.getD (n+1) 0).toNat)=q0 at *;have hR:=EH pre x post v (n+2) q0 hxl hvl oM oM hE.b (by rw[hvv];exact hE.hi);rw[hvv] at hR;have hdg:=A1 hV0 hE;obtain⟨hdB,hinv⟩:=hstep hdg;generalize YI (val x) V q0=d at *;have hi1:((i+1:Nat):Int)-1=(i:Int):=by omega);cbv
    (try dsimp only [z6] at *)
    refine⟨zF om om,zF om om,qF om om om,Md om ?_⟩;refine kW (λ_=>55) (.le (ps':=⟨[(9,iV s),(10,zW 55 1 (p.length+1)),(11,nat v),(12,zW 66 1 M),(13,iV i),(82,zW 66 1 M),(83,iV i),(84,.osl 55 1 (λ_=>pre.length) (λ_=>n+2+1)),(85,nat v),(86,.osl 55 1 (λ_=>pre.length) (λ_=>n+3)),(87,nat v)],[(55,z5 1 (lm (pre++(x++post)))),(66,z5 1 (lm out))]⟩) ?_ ?_ rfl) hS ?_;{cbv;refine⟨lR,lR,lR,lR,zG om,lR,zG om,zR ?_ ?_,lR,zR ?_ ?_,lR,trivial⟩ <;> ((try dsimp only [z6] at *);(try simp only[zJ]);omega)};{cbv;exact⟨zC (by rw[e0]),zC rfl,trivial⟩};cbv;refine kA (λ_=>55) hR ?_;cbv;refine⟨yD om om,gU i (by simp) oM ?_⟩;cbv;refine⟨zF om om,(i,pre++(pad (val x-d*V) (n+2+1)++post),out.set i (UInt32.ofNat d)),hinv,GB i,.le ?_ ?_ rfl⟩;{cbv;exact okA};{cbv;exact⟨zC rfl,zC (fY out (by simp) rfl hdB),trivial⟩}
   ·(have hk0:k=0:=by exact om);subst hk0
    (have hlo:=hz.lo;have hlu:=hz.lu;have heq:=hz.eq;have hlt:=hz.lt;rw[v5,Nat.pow_zero,Nat.one_mul] at heq;rw[v5] at hlt;have hQ:A/V=val out:=Nat.div_eq_of_lt_le (by grind) (by grind);have hRm:A%V=val u:=by rw[<-heq,Sw];exact kP hlt);cbv
    refine j2 (.trans (.le (ps':=⟨[(9,iV s),(12,zW 66 1 M),(92,zW 55 1 (p.length+1)),(93,iV s)],[(55,z5 1 (lm u)),(66,z5 1 (lm out))]⟩) ?_ ?_ rfl) (.trans (.frz 55 rfl rfl ?_ ?_) (.frz 66 rfl rfl ?_ ?_))) rfl (by refine⟨zT ?_,lR,trivial⟩;grind [zJ]) (EF u s oM oM) rfl ?_;{cbv;exact okA};{cbv;exact⟨zC rfl,zC rfl,trivial⟩};{cbv;exact⟨yB (by grind [zJ]),trivial⟩};{exact trivial};{cbv;exact⟨yB (by grind [zJ]),trivial⟩};{exact trivial};cbv;refine xE rfl (by refine⟨zT ?_,trivial⟩;grind [zJ]) (aI out oM) rfl ?_;cbv;refine jT rfl ?_ rfl;refine⟨zT ?_,zT ?_,lR,trivial⟩;{grind};grind [Nat.mul_div_cancel]
def k8 {n m:Nat}(h:n<=m):(zL n).length<=(zL m).length:=by rcases kO (zL m).length (zL n).length with h1|h1;{have:=Zw h1;omega};omega
def EL (a b:List UInt32)(ha:a.length<2^39)(hb:b.length<2^39):zE 198 [nat a,nat b] (nat (zL (Nat.gcd (val a) (val b)))):=by
 refine sF Tryz.f198 ?_;have ha':=xQ (yA a) ha;have hb':=xQ (yA b) hb;have hBB:B*B=18446744073709551616:=by decide
 generalize hg:Nat.gcd (val a) (val b)=g;cbv;refine cA (aI a oM) ?_;cbv;refine cA (aI b oM) ?_;cbv;refine zZ (σ:=Nat×Nat) (λz=>⟨[(0,nat (zL z.1)),(1,nat (zL z.2))],[]⟩) (λz=>(zL z.1).length<2^39/\(zL z.2).length<2^39/\Nat.gcd z.1 z.2=g) (λz=>z.2) (val a,val b) ⟨ha',hb',hg⟩ (.le ?_ trivial rfl) ?_;{cbv;exact okA};intro z hz;obtain⟨h1,h2,h3⟩:=hz;generalize z.1=x at *;generalize z.2=y at *;cbv;refine zH (λh4=>?_) (λh4=>?_)
 ·(cbv;have hy:y≠0:=λe=>by subst e;(try dsimp only [z6] at *);grind [lm,yY]);refine cA (RM (zL x) (zL y) h1 h2 (by grind [zQ])) ?_
  cbv;have hm:=uF x (rD hy);refine⟨(y,x%y),⟨h2,xQ (k8 (mC hm)) h2,by grind [Nat.gcd_comm,Nat.gcd_rec]⟩,hm,.le ?_ trivial rfl⟩;cbv;exact⟨lR,zT (by grind [zQ]),trivial⟩
 {have hy2:y<B*B:=B6.1 (by (try dsimp only [z6] at *);grind [zJ]);cbv;refine zH (λh5=>?_) (λh5=>?_);{have hy:y=0:=wD.1 (gX (by (try dsimp only [z6] at *);grind [zJ]));subst hy;cbv;refine cA (Bh (zL x) oM) ?_;cbv;refine jT rfl (zT ?_) rfl;rw[zQ,<-h3,Nat.gcd_zero_right]};{have hy:y≠0:=λe=>h5 (by subst e;simp[lm,yY]);have hm:=uF x (rD hy);cbv;refine cA (RM (zL x) (zL y) h1 h2 (by grind [zQ])) ?_;rw[zQ,zQ];cbv;refine cA (LD (zL y) oM) ?_;rw[zQ,if_pos hy2];cbv;refine cA (LD (zL (x%y)) (xQ (k8 (mC hm)) oM)) ?_;rw[zQ,if_pos oM];cbv;refine zZ (σ:=Nat×Nat) (λz=>⟨[(11,.int .u64 (λ_=>(z.1:Int))),(13,.int .u64 (λ_=>(z.2:Int)))],[]⟩) (λz=>z.1<B*B/\z.2<B*B/\Nat.gcd z.1 z.2=g) (λz=>z.2) (y,x%y) ⟨hy2,by omega,by grind [Nat.gcd_comm,Nat.gcd_rec]⟩ (.le ?_ trivial rfl) ?_;{cbv;exact okA};clear hm hy h3 h4 h5 h1 h2 hy2;intro z hz;obtain⟨h1,h2,h3⟩:=hz;generalize z.1=x at *;generalize z.2=y at *;cbv;refine zH (λh4=>?_) (λh4=>?_);{have hy:0<y:=om;have hm:=uF x hy;cbv;refine zP 5 (by cbv) ?_;cbv;refine⟨kI om,(y,x%y),⟨h2,by omega,by grind [Nat.gcd_comm,Nat.gcd_rec]⟩,hm,.le ?_ trivial rfl⟩;cbv;exact⟨lR,zG dP,trivial⟩};{have hy:y=0:=om;subst hy;cbv;refine cA (RN x h1) ?_;cbv;refine jT rfl (zT ?_) rfl;grind}}}
end Go.Proofs.YtboocdbmnfjomaaGreat
namespace Go.Proofs.YtboocdbmnfjomaaGreat
structure R where
 neg:Bool
 num:List UInt32
 den:List UInt32
deriving DecidableEq
def sgn (b:Bool) (n:Nat):Int:=if b then -(n:Int) else n
def qM (b:Bool)(n:Nat):(sgn b n).natAbs=n:=by grind [sgn]
def KJ (b:Bool):sgn b 0=0:=by cases b <;> rfl
def U4 {b:Bool}{n:Nat}:sgn b n<0↔(b=true/\n≠0):=by grind [sgn]
def XB (z:Int):sgn (decide (z<0)) z.natAbs=z:=by grind [sgn]
def U3 (a b:Bool)(n m:Nat):sgn a n*sgn b m=sgn (a != b) (n*m):=by cases a <;> cases b <;> simp[sgn,Int.neg_mul,Int.mul_neg]
def Yq (a:Bool)(n m:Nat):sgn a n*(m:Int)=sgn a (n*m):=by grind [sgn]
def GM (a:Bool)(n:Nat):sgn (!a) n=- sgn a n:=by grind [sgn]
def R.n (x:R):Int:=sgn x.neg (val x.num)
def R.d (x:R):Nat:=if val x.den=0 then 1 else val x.den
def R.q (x:R):Rat:=mkRat x.n x.d
theorem R.d_ne (x:R):x.d≠0:=by grind [R.d]
def zI (q:Rat):R:=⟨decide (q.num<0),zL q.num.natAbs,if q.den=1 then [] else zL q.den⟩
theorem H3 (q:Rat):(zI q).n=q.num:=by simp only[R.n,zI,zQ];exact XB _
theorem Nt (q:Rat):(zI q).d=q.den:=by have:=q.den_pos;unfold R.d zI;by_cases h:q.den=1;{simp[h,val]};{simp only[h,if_false,zQ];grind}
theorem z7 (q:Rat):(zI q).q=q:=by grind [R.q,H3,Nt,Rat.mkRat_self]
def vR:zI 0=⟨false,[],[]⟩:=by simp[zI,yY]
def G8 {neg:Bool}{n d:Nat}(hd:d≠0):(mkRat (sgn neg n) d).num=sgn neg (n/Nat.gcd n d):=by rw[Rat.num_mkRat,if_neg hd,qM,Nat.gcd_comm];grind [Int.natCast_dvd_natCast,Nat.gcd_dvd_left,sgn,Int.neg_ediv_of_dvd]
def G9 {neg:Bool}{n d:Nat}(hd:d≠0):(mkRat (sgn neg n) d).den=d/Nat.gcd n d:=by rw[Rat.den_mkRat,if_neg hd,qM,Nat.gcd_comm]
def ZV {neg:Bool}{n d:Nat}(hd:d≠0):zI (mkRat (sgn neg n) d)=⟨neg&&decide (n≠0),zL (n/Nat.gcd n d),if d/Nat.gcd n d=1 then [] else zL (d/Nat.gcd n d)⟩:=by
 rw[zI,G8 hd,G9 hd,qM];congr 1;rw[Bool.eq_iff_iff];have hg:0<Nat.gcd n d:=Nat.gcd_pos_of_pos_right n (Nat.pos_of_ne_zero hd);have h1:n/Nat.gcd n d=0↔n=0:=by rw[Nat.div_eq_zero_iff_lt hg];grind [Nat.gcd_le_left]
 simp only[decide_eq_true_eq,Bool.and_eq_true,U4,ne_eq,h1]
def BD (a b:R):a.q+b.q=mkRat (a.n*b.d+b.n*a.d) (a.d*b.d):=Rat.mkRat_add_mkRat _ _ a.d_ne b.d_ne
def P7 (a b:R):a.q*b.q=mkRat (a.n*b.n) (a.d*b.d):=Rat.mkRat_mul_mkRat _ _ _ _
def Fa (a:R):(⟨!a.neg,a.num,a.den⟩:R).q=- a.q:=by simp only[R.q,R.n,R.d,GM,Rat.neg_mkRat]
def Za {n:Int}{d:Nat}(hd:d≠0):0<=mkRat n d↔0<=n:=by rw[<-Rat.divInt_ofNat];exact Rat.divInt_nonneg_iff_of_pos_right (by omega)
def LR (a b:R):a.q-b.q=mkRat (a.n*b.d-b.n*a.d) (a.d*b.d):=by rw[Rat.sub_eq_add_neg,<-Fa,BD];simp only[R.n,R.d,GM,Int.neg_mul,Int.sub_eq_add_neg]
def Oa (a b:R):a.q<=b.q↔a.n*b.d<=b.n*a.d:=by rw[Rat.le_iff_sub_nonneg,LR,Za (Nat.mul_ne_zero b.d_ne a.d_ne)];omega
def E0 (a b:R):a.q<b.q↔a.n*b.d<b.n*a.d:=by rw[<-Rat.not_le,Oa];omega
theorem DB (a:R):a.q=0↔a.n=0:=Rat.mkRat_eq_zero a.d_ne
theorem KZ (a:R):0<=a.q↔0<=a.n:=Za a.d_ne
def ZW (a:R):a.q<0↔a.n<0:=by grind [KZ]
def LS (a:R):0<a.q↔0<a.n:=by grind [KZ,DB]
def yF (q:Rat):Int:=if q<0 then -1 else if 0<q then 1 else 0
def wN (a b:Rat):Int:=if a<b then -1 else if b<a then 1 else 0
def j6 (z:Int):Int:=if z<0 then -1 else if 0<z then 1 else 0
def YU (a b:Int):Int:=if a<b then -1 else if b<a then 1 else 0
def CK (a:R):yF a.q=j6 a.n:=by simp only[yF,j6,ZW,LS]
def NE (a b:R):wN a.q b.q=YU (a.n*b.d) (b.n*a.d):=by simp only[wN,YU,E0]
structure Fits (k:Nat) (q:Rat):Prop where
 num:q.num.natAbs<B^k
 den:q.den<B^k
theorem Fits.mono {k m:Nat}{q:Rat}(h:Fits k q)(hm:k<=m):Fits m q :=
 ⟨Nat.lt_of_lt_of_le h.num (Nat.pow_le_pow_right uB hm),Nat.lt_of_lt_of_le h.den (Nat.pow_le_pow_right uB hm)⟩
def tU {k:Nat}{n:Int}{d:Nat}(hn:n.natAbs<B^k)(hd:d<B^k)(h0:d≠0):Fits k (mkRat n d):=by have hs:n=sgn (decide (n<0)) n.natAbs:=(XB n).symm;rw[hs];refine⟨?_,?_⟩;{rw[G8 h0,qM];exact Nat.lt_of_le_of_lt (Nat.div_le_self _ _) hn};{rw[G9 h0];exact Nat.lt_of_le_of_lt (Nat.div_le_self _ _) hd}
def Nd {k:Nat}{x:R}(h1:x.num.length<=k)(h2:x.den.length<=k)(hk:1<=k):Fits k x.q:=by refine tU ?_ ?_ x.d_ne;{rw[R.n,qM];exact Nat.lt_of_lt_of_le (x8 _) (Nat.pow_le_pow_right uB h1)};{unfold R.d;split;{exact Nat.lt_of_lt_of_le (show 1<B^1 by decide) (Nat.pow_le_pow_right uB hk)};{exact Nat.lt_of_lt_of_le (x8 _) (Nat.pow_le_pow_right uB h2)}}
theorem Fits.lnum {k:Nat}{q:Rat}(h:Fits k q):(zI q).num.length<=k:=yM h.num
theorem Fits.lden {k:Nat}{q:Rat}(h:Fits k q):(zI q).den.length<=k:=by unfold zI;by_cases h1:q.den=1;{simp[h1]};{simp only[h1,if_false];exact yM h.den}
def fI {a b k m:Nat}(ha:a<B^k)(hb:b<B^m):a*b<B^(k+m):=by rw[Nat.pow_add];exact Nat.mul_lt_mul'' ha hb
def x5 {k m:Nat}{a b:Rat}(ha:Fits k a)(hb:Fits m b):Fits (k+m) (a*b):=by rw[Rat.mul_def'];refine tU ?_ (fI ha.den hb.den) (Nat.mul_ne_zero a.den_nz b.den_nz);rw[Int.natAbs_mul];exact fI ha.num hb.num
theorem uS {k m:Nat}{a b:Rat}(ha:Fits k a)(hb:Fits m b):Fits (k+m+1) (a+b):=by rw[Rat.add_def'];have h1:=fI ha.num hb.den;have h2:=fI hb.num ha.den;rw[Nat.add_comm m k] at h2;have h3:B^(k+m+1)=B^(k+m)*B:=Nat.pow_succ _ _;have hd:=fI ha.den hb.den;have h5:B^(k+m)*2<=B^(k+m)*B:=Nat.mul_le_mul_left _ (by decide);refine tU ?_ ?_ (Nat.mul_ne_zero a.den_nz b.den_nz);{grind [Int.natAbs_add_le,Int.natAbs_mul]};omega
theorem bT {k:Nat}{a:Rat}(ha:Fits k a):Fits k (-a):=⟨by rw[Rat.neg_num,Int.natAbs_neg];exact ha.num,by rw[Rat.neg_den];exact ha.den⟩
def dS {k m:Nat}{a b:Rat}(ha:Fits k a)(hb:Fits m b):Fits (k+m+1) (a-b):=by grind [Rat.sub_eq_add_neg,uS,bT]
theorem xT {k:Nat}(hk:1<=k):Fits k 0 :=
 ⟨by simp;exact Nat.pow_pos uB,by simp;exact Nat.lt_of_lt_of_le (show 1<B^1 by decide) (Nat.pow_le_pow_right uB hk)⟩
def nE {k:Nat}{z:Int}(h:z.natAbs<B^k)(hk:1<=k):Fits k (z:Rat) :=
 ⟨by simp_all,by simp;exact Nat.lt_of_lt_of_le (show 1<B^1 by decide) (Nat.pow_le_pow_right uB hk)⟩
def WH {k:Nat}{a:Rat}(ha:Fits k a):Fits k a⁻¹:=by
 refine⟨?_,?_⟩
 ·(rw[Rat.num_inv,Int.natAbs_mul];have h1:a.num.sign.natAbs<=1:=by grind);have h2:=ha.den
  grind
 {rw[Rat.den_inv];split;{have:=ha.den;simp_all};{exact ha.num}}
def R.ok (x:R):Bool:=decide (x=zI x.q)
theorem rP (q:Rat):(zI q).ok=true:=by simp[R.ok,z7]
end Go.Proofs.YtboocdbmnfjomaaGreat
namespace Go.Proofs.YtboocdbmnfjomaaGreat
open Go
set_option maxRecDepth 100000
def wH {nb:Bool}{objs:List (Nat×Obj')}{f:FuncId}{args args':List PV}{K:PV->Prop}{r:PV}(h2:jH les args args')(h3:zE f args' r)(h5:nmIn [] r=true)(h4:K r):CallS nb objs f args K:=⟨.inl ⟨args',r,tQ h2,h3,h5,h4⟩⟩
def dA {nb:Bool}{objs:List (Nat×Obj')}{f:FuncId}{args args':List PV}{K:PV->Prop}{r:PV}(h3:zE f args' r)(h4:K r)(h2:jH les args args':=by exact okA)(h5:nmIn [] r=true:=by exact rfl):CallS nb objs f args K:=wH h2 h3 h5 h4
def j9 (a b:List UInt32):(zL (val a*val b)).length<=a.length+b.length:=yM (fI (x8 a) (x8 b))
def Fo (a b:List UInt32):(zL (val a+val b)).length<=a.length+b.length+1:=by refine yM ?_;have h1:=jJ (x8 a) (d7 uB (Nat.le_add_right a.length b.length));have h2:=jJ (x8 b) (d7 uB (Nat.le_add_left b.length a.length));have h3:B^(a.length+b.length)*2<=B^(a.length+b.length)*B:=wL _ (by decide);rw[uL];omega
def Y4 (a b:List UInt32):(zL (val a-val b)).length<=a.length:=yM (xQ (Nat.sub_le _ _) (x8 a))
structure Z where
 neg:Bool
 mag:List UInt32
def Z.v (x:Z):Int:=sgn x.neg (val x.mag)
def wA (z:Int):Z:=⟨decide (z<0),zL z.natAbs⟩
theorem cS (z:Int):(wA z).v=z:=by simp only[Z.v,wA,zQ];exact XB z
abbrev zv (x:Z):PV:=.agg [zM x.neg,nat x.mag]
def Jt (neg:Bool)(n:Nat):wA (sgn neg n)=⟨neg&&decide (n≠0),zL n⟩:=by simp only[wA,qM];congr 1;rw[rT];simp only[decide_eq_true_eq,U4,yS]
def CI {b:Bool}{n:Nat}(h:¬sgn b n<0):sgn b n=(n:Int):=by cases b;{rfl};{simp only[sgn,if_true] at h ⊢;omega}
def Bi (neg:Bool)(m:List UInt32)(hm:m.length<2^40):zE 187 [zM neg,nat m] (zv (wA (sgn neg (val m)))):=by
 refine sF Tryz.f187 ?_;rw[Jt];cbv;refine cA (Bh m hm) ?_;cbv;refine yH (λh=>?_) (λh=>?_)
 ·subst h;cbv
  (refine rC ?_;cbv)
  refine⟨z4 ?_,lR,trivial⟩;rw[rT];simp only[decide_eq_true_eq,zJ,yU];rw[<-@wD (val m),<-Kp]
  (try dsimp only [z6] at *)
  omega
 {subst h;cbv;exact rA}
def ES (x:Int)(h1:-9223372036854775808<=x)(h2:x<9223372036854775808):zE 217 [iV x] (zv (wA x)):=by
 refine sF Tryz.f217 ?_;have hBB:B*B=18446744073709551616:=by decide
 have e:zv (wA x)=.agg [zM (decide (x<0)),nat (zL x.natAbs)]:=rfl;rw[e];cbv;refine zH (λh=>?_) (λh=>?_)
 ·(have e1:nx .u64 (0-nx .u64 x)=((x.natAbs:Nat):Int):=by grind [uR]);generalize hn:x.natAbs=n at *
  cbv;refine xE rfl (by exact⟨zG e1,trivial⟩) (RN n oM) rfl ?_;cbv
  (refine rC ?_;cbv)
  exact⟨yL (decide_eq_true h),lR,trivial⟩
 ·(have e1:nx .u64 x=((x.natAbs:Nat):Int):=by grind [uR]);generalize hn:x.natAbs=n at *
  cbv;refine xE rfl (by exact⟨zG e1,trivial⟩) (RN n oM) rfl ?_;cbv
  (refine rC ?_;cbv)
  exact⟨zN (decide_eq_false h),lR,trivial⟩
def MI (x:Z)(hx:x.mag.length<2^40):zE 127 [zv x] (iV (j6 x.v)):=by
 refine sF Tryz.f127 ?_;obtain⟨neg,mag⟩:=x;have hv:Z.v ⟨neg,mag⟩=sgn neg (val mag):=rfl;rw[hv];have h0:((gW (val mag):Nat):Int)=0↔val mag=0:=by grind [lQ]
 have hs:=LK mag hx;generalize gW (val mag)=b at h0 hs;generalize hS:j6 (sgn neg (val mag))=S at *;cbv;refine cA hs ?_;cbv;refine zH (λh=>?_) (λh=>?_)
 ·cbv
  (refine rC ?_;cbv)
  refine zG ?_;rw[<-hS,h0.1 h,KJ];rfl
 ·have hne:val mag≠0:=λe=>h (h0.2 e);cbv;refine zS (λh2=>?_) (λh2=>?_)
  ·subst h2;cbv
   (refine rC ?_;cbv)
   refine zG ?_;rw[<-hS,show sgn true (val mag)=-(val mag:Int) from rfl];unfold j6;omega
  ·subst h2;cbv
   (refine rC ?_;cbv)
   refine zG ?_;rw[<-hS,show sgn false (val mag)=(val mag:Int) from rfl];unfold j6;omega
def EN (x y:Z)(hx:x.mag.length<2^40)(hy:y.mag.length<2^40):zE 98 [zv x,zv y] (iV (YU x.v y.v)):=by
 refine sF Tryz.f98 ?_;have hsx:=MI x hx;have hsy:=MI y hy;have hxv:x.v=sgn x.neg (val x.mag):=rfl;have hyv:y.v=sgn y.neg (val y.mag):=rfl;have h1:j6 x.v<j6 y.v->YU x.v y.v=-1:=by intro h;unfold j6 at h;unfold YU;split at h <;> split at h <;> (try split at h) <;> (try split at h) <;> first|(rw[if_pos oM])|omega
 have h2:j6 y.v<j6 x.v->YU x.v y.v=1:=by intro h;unfold j6 at h;unfold YU;split at h <;> split at h <;> (try split at h) <;> (try split at h) <;> first|(rw[if_neg oM,if_pos oM])|omega
 have h3:j6 x.v=j6 y.v->j6 x.v<0->YU x.v y.v=qZ (val y.mag) (val x.mag):=by
  (intro h h';have a1:x.v<0:=by unfold j6 at h';split at h' <;> (try split at h') <;> omega);have a2:y.v<0:=by rw[h] at h';unfold j6 at h';split at h' <;> (try split at h') <;> omega
  rw[hxv,U4] at a1;rw[hyv,U4] at a2;rw[hxv,hyv,a1.1,a2.1];simp only[YU,qZ,sgn,if_true];omega
 have h4:j6 x.v=j6 y.v->¬j6 x.v<0->YU x.v y.v=qZ (val x.mag) (val y.mag):=by
  (intro h h';have a1:¬x.v<0:=by unfold j6 at h';split at h' <;> (try split at h') <;> omega);have a2:¬y.v<0:=by rw[h] at h';unfold j6 at h';split at h' <;> (try split at h') <;> omega
  (have b1:x.v=(val x.mag:Int):=by rw[hxv] at a1 ⊢;exact CI a1);have b2:y.v=(val y.mag:Int):=by rw[hyv] at a2 ⊢;exact CI a2
  grind [YU,qZ]
 generalize YU x.v y.v=C at *;generalize j6 x.v=s at *;generalize j6 y.v=t at *;cbv;refine zP 4 (by cbv) ?_;cbv;refine dA hsx ?_;cbv;refine dA hsy ?_;cbv;refine zH (λh=>?_) (λh=>?_)
 ·cbv
  (refine rC ?_;cbv)
  exact zG (h1 h).symm
 ·cbv;refine zH (λh'=>?_) (λh'=>?_)
  ·cbv
   (refine rC ?_;cbv)
   exact zG (h2 h').symm
  ·(have he:s=t:=by omega);cbv
   refine zH (λh5=>?_) (λh5=>?_);{have h6:=h3 he h5;have h7:=HL y.mag x.mag hy hx;rw[<-h6] at h7;cbv;refine cA h7 ?_;cbv;exact rA};{have h6:=h4 he h5;have h7:=HL x.mag y.mag hx hy;rw[<-h6] at h7;cbv;refine cA h7 ?_;cbv;exact rA}
def EP (x y:Z)(hx:x.mag.length<2^38)(hy:y.mag.length<2^38):zE 149 [zv x,zv y] (zv (wA (x.v+y.v))):=by
 refine sF Tryz.f149 ?_;obtain⟨n1,m1⟩:=x;obtain⟨n2,m2⟩:=y;have hv:Z.v ⟨n1,m1⟩+Z.v ⟨n2,m2⟩=sgn n1 (val m1)+sgn n2 (val m2):=rfl;have hl:=Fo m1 m2;have hl1:=Y4 m1 m2;have hl2:=Y4 m2 m1;have hx':m1.length<2^38:=hx;have hy':m2.length<2^38:=hy;rw[hv];have c1:n1=n2->zE 187 [zM n1,nat (zL (val m1+val m2))] (zv (wA (sgn n1 (val m1)+sgn n2 (val m2)))):=by intro h;have:=Bi n1 (zL (val m1+val m2)) oM;rw[zQ] at this;grind [sgn]
 have c2:n1≠n2->¬qZ (val m1) (val m2)<0->zE 187 [zM n1,nat (zL (val m1-val m2))] (zv (wA (sgn n1 (val m1)+sgn n2 (val m2)))):=by
  intro h h';have hge:val m2<=val m1:=by unfold qZ at h';omega
  (have:=Bi n1 (zL (val m1-val m2)) oM;rw[zQ] at this;have e:sgn n1 (val m1-val m2)=sgn n1 (val m1)+sgn n2 (val m2):=by grind [sgn]);grind
 have c3:n1≠n2->qZ (val m1) (val m2)<0->zE 187 [zM n2,nat (zL (val m2-val m1))] (zv (wA (sgn n1 (val m1)+sgn n2 (val m2)))):=by
  intro h h';have hge:val m1<=val m2:=by unfold qZ at h';omega
  (have:=Bi n2 (zL (val m2-val m1)) oM;rw[zQ] at this;have e:sgn n2 (val m2-val m1)=sgn n1 (val m1)+sgn n2 (val m2):=by grind [sgn]);simp_all
 have c0:=HL m1 m2 oM oM;generalize qZ (val m1) (val m2)=cm at *;generalize sgn n1 (val m1)+sgn n2 (val m2)=T at *;cbv;refine zH (λh=>?_) (λh=>?_);{have h':=c1 h;generalize wA T=W at *;cbv;refine zP 8 (by cbv) ?_;cbv;refine dA (EM m1 m2 oM oM) ?_;cbv;refine dA h' ?_;cbv;exact rA};{have h2:=c2 h;have h3:=c3 h;generalize wA T=W at *;cbv;refine cA c0 ?_;cbv;refine zH (λh4=>?_) (λh4=>?_);{cbv;refine cA (LG m2 m1 oM oM) ?_;cbv;refine cA (h3 h4) ?_;cbv;exact rA};{cbv;refine cA (LG m1 m2 oM oM) ?_;cbv;refine cA (h2 h4) ?_;cbv;exact rA}}
def LH (x y:Z)(hx:x.mag.length<2^38)(hy:y.mag.length<2^38):zE 155 [zv x,zv y] (zv (wA (x.v*y.v))):=by
 refine sF Tryz.f155 ?_;obtain⟨n1,m1⟩:=x;obtain⟨n2,m2⟩:=y;have hl:=j9 m1 m2;have hx':m1.length<2^38:=hx;have hy':m2.length<2^38:=hy;have hv:Z.v ⟨n1,m1⟩*Z.v ⟨n2,m2⟩=sgn (n1 != n2) (val m1*val m2):=U3 _ _ _ _;rw[hv];have c1:=Bi (n1 != n2) (zL (val m1*val m2)) oM;rw[zQ] at c1;have hb:(n1 != n2)=!decide (n1=n2):=by grind
 generalize wA (sgn (n1 != n2) (val m1*val m2))=W at *;generalize hnb:(n1 != n2)=nb at *;cbv;refine zP 11 (by cbv) ?_;cbv;refine dA (Dv m1 m2 oM oM) ?_;cbv;refine wH (by exact⟨v7 hb,lR,trivial⟩) c1 rfl ?_;cbv;exact rA
end Go.Proofs.YtboocdbmnfjomaaGreat
