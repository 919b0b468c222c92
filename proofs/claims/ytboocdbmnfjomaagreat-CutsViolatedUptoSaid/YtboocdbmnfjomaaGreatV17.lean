/- A part of the proof: NtI, NtJ, PnC, IgA. -/
import Derived.Test.YtboocdbmnfjomaaGreatV16
import Derived.Test.YtboocdbmnfjomaaGreatV14
set_option linter.all false
namespace Go.Proofs.YtboocdbmnfjomaaGreat
open Go
set_option maxRecDepth 100000
def Yo {g:Operand}{as_:List Operand}{dst:Option Nat}{ps ps':PS}{K:PS->Prop}{f:FuncId}{caps cargs:List PV}{kept eaten:List (Nat×Obj')}{r:PV}{kept' made:List (Nat×Obj')}(hn:Nat->Nat)(hw:Wk ps ps') (h1:ev (zD ps'.tmps) g=.fn f caps) (h2:jC les (evs (ev (zD ps'.tmps)) as_++caps) (iJ hn cargs)) (h3:Sound f cargs kept eaten r kept' made) (h4:uA hn ps'.objs (kept++eaten)) (h5:ndO (yC hn (kept++eaten))=true) (h5':ndO (kept++eaten)=true) (h6:cK (bR (kept'++made)) (kept'++made)=true) (h7:ndO (yC hn made)=true) (h8:aK hn (rQ hn eaten ps') made=true) (h9:yX lv cargs=true) (h10:lv r=true) (h11:nmIn (bR (kept'++made)) r=true) (h12:K (put (aD hn eaten kept' made ps') dst (ren hn r))):CallOk g as_ dst ps K :=
 ⟨ps',hw,f,caps,h1,.inr ⟨hn,cargs,kept,eaten,r,kept',made,p6 h2,h3,h4,h5,h5',h6,h7,h8,h9,h10,h11,h12⟩⟩
def kA {g:Operand}{as_:List Operand}{dst:Option Nat}{ps:PS}{K:PS->Prop}{f:FuncId}{caps cargs:List PV}{kept eaten:List (Nat×Obj')}{r:PV}{kept' made:List (Nat×Obj')}(hn:Nat->Nat)(h3:Sound f cargs kept eaten r kept' made)(h12:K (put (aD hn eaten kept' made ps) dst (ren hn r)))(h1:ev (zD ps.tmps) g=.fn f caps:=by exact rfl)(h2:jC les (evs (ev (zD ps.tmps)) as_++caps) (iJ hn cargs):=by exact okA)(h4:uA hn ps.objs (kept++eaten):=by exact okR)(h5:ndO (yC hn (kept++eaten))=true:=by exact rfl)(h5':ndO (kept++eaten)=true:=by exact rfl)(h6:cK (bR (kept'++made)) (kept'++made)=true:=by exact rfl)(h7:ndO (yC hn made)=true:=by exact rfl)(h8:aK hn (rQ hn eaten ps) made=true:=by exact rfl)(h9:yX lv cargs=true:=by exact rfl)(h10:lv r=true:=by exact rfl)(h11:nmIn (bR (kept'++made)) r=true:=by exact rfl):CallOk g as_ dst ps K:=Yo hn (.refl _) h1 h2 h3 h4 h5 h5' h6 h7 h8 h9 h10 h11 h12
def kW {g:Operand}{as_:List Operand}{dst:Option Nat}{ps ps':PS}{K:PS->Prop}{f:FuncId}{caps cargs:List PV}{kept eaten:List (Nat×Obj')}{r:PV}{kept' made:List (Nat×Obj')}(hn:Nat->Nat)(hw:Wk ps ps')(h3:Sound f cargs kept eaten r kept' made)(h12:K (put (aD hn eaten kept' made ps') dst (ren hn r)))(h1:ev (zD ps'.tmps) g=.fn f caps:=by exact rfl)(h2:jC les (evs (ev (zD ps'.tmps)) as_++caps) (iJ hn cargs):=by exact okA)(h4:uA hn ps'.objs (kept++eaten):=by exact okR)(h5:ndO (yC hn (kept++eaten))=true:=by exact rfl)(h5':ndO (kept++eaten)=true:=by exact rfl)(h6:cK (bR (kept'++made)) (kept'++made)=true:=by exact rfl)(h7:ndO (yC hn made)=true:=by exact rfl)(h8:aK hn (rQ hn eaten ps') made=true:=by exact rfl)(h9:yX lv cargs=true:=by exact rfl)(h10:lv r=true:=by exact rfl)(h11:nmIn (bR (kept'++made)) r=true:=by exact rfl):CallOk g as_ dst ps K:=Yo hn hw h1 h2 h3 h4 h5 h5' h6 h7 h8 h9 h10 h11 h12
def kB {g:Operand}{as_:List Operand}{dst:Option Nat}{ps ps':PS}{K:PS->Prop}{f:FuncId}{caps cargs:List PV}{kept eaten:List (Nat×Obj')}{r:PV}{kept' made:List (Nat×Obj')}(hn:Nat->Nat)(hw:Wk ps ps')(h1:ev (zD ps'.tmps) g=.fn f caps)(h2:jC les (evs (ev (zD ps'.tmps)) as_++caps) (iJ hn cargs))(h3:Sound f cargs kept eaten r kept' made)(h12:K (put (aD hn eaten kept' made ps') dst (ren hn r)))(h4:uA hn ps'.objs (kept++eaten):=by exact okR)(h5:ndO (yC hn (kept++eaten))=true:=by exact rfl)(h5':ndO (kept++eaten)=true:=by exact rfl)(h6:cK (bR (kept'++made)) (kept'++made)=true:=by exact rfl)(h7:ndO (yC hn made)=true:=by exact rfl)(h8:aK hn (rQ hn eaten ps') made=true:=by exact rfl)(h9:yX lv cargs=true:=by exact rfl)(h10:lv r=true:=by exact rfl)(h11:nmIn (bR (kept'++made)) r=true:=by exact rfl):CallOk g as_ dst ps K:=Yo hn hw h1 h2 h3 h4 h5 h5' h6 h7 h8 h9 h10 h11 h12
def ZU:∀ (n x:Nat),x<=n->x<4294967296->x<2^Lib.bitLen x
 |0,x,h,_=>by
  (have:x=0:=by omega);subst this
  exact eC _
 |n+1,x,h,hx=>by rcases tQ x with e|e;{subst e;exact eC _};{rw[Lib.bitLen_half x oM oM,Yq,uO];have:=ZU n (x/2) oM oM;omega}
def FW {x:Nat}(h:x≠0)(hx:x<4294967296):2^(Lib.bitLen x-1)<=x:=by rcases uG x (2^(Lib.bitLen x-1)) with h1|h1;{have h2:=Lib.bitLen_le x (Lib.bitLen x-1) (by grind [cX]) h1;grind};omega
def J7 {x:Nat}(h:x≠0)(hx:x<4294967296):32-Lib.bitLen x<32/\2147483648<=x*2^(32-Lib.bitLen x)/\x*2^(32-Lib.bitLen x)<4294967296:=by have h1:=FW h hx;have h2:=ZU x x (yQ _) hx;have h3:=cX hx;have h4:=WM h hx;generalize Lib.bitLen x=k at *;refine⟨by omega,?_,?_⟩;{have h5:=uR (2^(32-k)) h1;rw[<-jS] at h5;grind};{have h5:=i7 h2 (eC (32-k));rw[<-jS] at h5;grind}
def Nk:Pg.funcs[199]?=some Tryz.f199:=by rw[vI];rfl
def Pf {p:List UInt32}(hc:bP p=true){n:Nat}(hl:p.length=n+1):B^n<=val p:=by
 have hne:p≠[]:=λe=>by grind
 have h1:=tJ hne;rw[hc] at h1;have h2:(p.getD n 0).toNat≠0:=by
  (intro e;have:p.getD (p.length-1) 0=0:=by rw[hl];exact Zf.1 e);grind
 have h3:=z7 p n;rw[yU oM] at h3;have:=wN (B^n) (show 1<=(p.getD n 0).toNat by omega);omega
structure DivInv (A V N M:Nat) (k:Nat) (u out:List UInt32):Prop where
 kle:k<=M
 lu:u.length=N
 lo:out.length=M
 lt:val (u.drop k)<V
 eq:val u+V*(B^k*val (out.drop k))=A
def BI {A V N M i n q:Nat}{u out:List UInt32}(h:DivInv A V N M (i+1) u out)(hV:V<B^(n+2))(h0:0<V)(hN:i+n+3<=N):let x:=(u.drop i).take (n+3)
  let pre:=u.take i
  let post:=u.drop (i+(n+3))
  u=pre++(x++post)/\x.length=n+3/\pre.length=i/\val x<B*V/\(q=val x/V->q<B/\DivInv A V N M i (pre++(pad (val x-q*V) (n+3)++post)) (out.set i (UInt32.ofNat q))):=by
 intro x pre post;have hlu:=h.lu;have e1:x++post=u.drop i:=by show (u.drop i).take (n+3)++u.drop (i+(n+3))=u.drop i;rw[<-Z2,Jp]
 have e0:u=pre++(x++post):=by grind [List.take_append_drop]
 have hxl:x.length=n+3:=by show ((u.drop i).take (n+3)).length=_;rw[xP,uP];omega
 have hpl:pre.length=i:=by grind
 have hpost:val post=0:=by have h2:=Y1 (l:=u.drop (i+1)) (n+2) (by rw[uP];omega) (gC h.lt hV);grind [List.drop_drop]
 have hdi:val (u.drop i)=val x:=by grind [vJ]
 have hxv:val x<B*V:=by have h3:=jD (l:=u) (i:=i) oM;have h4:=yT (u.getD i 0);have h5:=wN B (show val (u.drop (i+1))+1<=V from h.lt);grind
 refine⟨e0,hxl,hpl,hxv,λhq=>?_⟩;obtain⟨r1,r2,r3⟩:=FQ (pre:=pre) (x:=x) (post:=post) (V:=V) (n:=n+2) hxl hpost (by grind) hV h0 hq;have r3:val (pre++(pad (val x-q*V) (n+3)++post))+V*(B^pre.length*q)=val (pre++(x++post)):=r3;have hk:=h.kle;have hlo:=h.lo;refine⟨r1,by omega,?_,by grind,?_,?_⟩
 ·(have hpad:(pad (val x-q*V) (n+3)).length=n+3:=by refine sJ (xR (Nat.sub_le _ _) ?_);grind [xZ]);grind
 {grind};{have h6:=h.eq;grind [eI,xX,Nat.mod_eq_of_lt]}
def Sf (a b:List UInt32)(ha:a.length<2^39)(hb:b.length<2^39)(h0:val b≠0):zH 199 [nat a,nat b] (.tup [nat (zL (val a/val b)),nat (zL (val a%val b)),iV 0]):=by
 refine xB Nk rfl rfl rfl rfl rfl ?_;have ha':=xR (z8 a) ha;have hb':=xR (z8 b) hb;have hB:B=4294967296:=rfl;cbv;refine cA (aB a oM) ?_;cbv;refine cA (aB b oM) ?_;have hva:val (zL (val a))=val a:=zQ _;have hvb:val (zL (val b))=val b:=zQ _;have hca:=rI (val a);have hcb:=rI (val b);have hqne:(zL (val b)).length≠0:=λe=>h0 (wA.1 (gO e));have hlen:¬val a<val b->(zL (val b)).length<=(zL (val a)).length:=by intro h;rcases uG (zL (val a)).length (zL (val b)).length with h1|h1;{exact absurd (Za h1) h};omega
 generalize zL (val a)=p at *;generalize zL (val b)=q at *;cbv;refine zG (λh=>absurd (show q.length=0 by (try dsimp only [zS] at *);grind [zJ]) hqne) (λh=>?_);cbv;refine cA (JV p q oM oM) ?_;rw[hva,hvb];have hcmp:qV (val a) (val b)<0↔val a<val b:=by grind [qV]
 generalize qV (val a) (val b)=cm at *;cbv;refine zG (λh1=>?_) (λh1=>?_);{have hlt:=hcmp.1 h1;cbv;refine cA (D6 p oM) ?_;cbv;refine jL rfl ?_ rfl;refine⟨xC ?_,zU ?_,lR,trivial⟩;{rw[Jt hlt,yV];rfl};{rw[hva,kL hlt]}}
 ·have hge:¬val a<val b:=λe=>h1 (hcmp.2 e);have hlpq:=hlen hge;cbv;refine zG (λh2=>?_) (λh2=>?_)
  ·(have hq1:q.length=1:=by (try dsimp only [zS] at *);grind [zJ]);cbv
   (refine xM 0 rfl oM ?_;cbv;have hvq:val b=(q.getD 0 0).toNat:=by have:=z7 q 0;grind [val]);refine cA (NT p (q.getD 0 0).toNat oM (yT _) oM) ?_;cbv;refine jL rfl ?_ rfl;exact⟨zU (by grind),zU (by grind),lR,trivial⟩
  ·(have hq2:q.length≠1:=by (try dsimp only [zS] at *);grind [zJ]);obtain⟨n,hn⟩:∃ n,q.length=n+2:=⟨q.length-2,by omega⟩
   have htl:(q.getD (n+1) 0).toNat≠0:=by
    (intro e;have h3:=tJ (l:=q) (λe=>by grind);have:q.getD (q.length-1) 0=0:=by rw[hn];exact Zf.1 e);grind
   (obtain⟨hs1,hs2,hs3⟩:=J7 htl (yT (q.getD (n+1) 0));have hbl:=cX (yT (q.getD (n+1) 0));cbv;refine⟨zE om om,xM (n+1) om om ?_⟩;cbv;refine cA (NS (q.getD (n+1) 0).toNat (yT _)) ?_;have hsi:(32:Int)-((Lib.bitLen (q.getD (n+1) 0).toNat:Nat):Int)=((32-Lib.bitLen (q.getD (n+1) 0).toNat:Nat):Int):=by omega);rw[hsi]
   generalize hsd:32-Lib.bitLen (q.getD (n+1) 0).toNat=s at *;cbv;refine kA (λ_=>55) (MP p s oM hs1) ?_;cbv;refine kA (λ_=>58) (MP q s oM hs1) ?_;cbv
   
   have hVlt:val q*2^s<B^(n+2):=by
    have h3:=z7 q (n+1);have h4:=wY q (n+1);rw[yU oM] at h3;rw[h3,jK,gM,show B^(n+2)=B^(n+1)*B from uO _ _];have h5:=i7 h4 (eC s);have h6:(q.getD (n+1) 0).toNat*2^s+2^s<=B:=by
     (obtain⟨z,hz⟩:2^s ∣ B:=⟨2^(32-s),by rw[<-jS];grind⟩;rw[hz,jI _ (2^s),<-Z1];refine wN _ ?_;have:2^s*(q.getD (n+1) 0).toNat<2^s*z:=by grind);exact Nat.lt_of_mul_lt_mul_left this
    have h7:=wN (B^(n+1)) h6;rw[kP] at h7;omega
   have hqge:=Pf hcb (n:=n+1) hn;have hVge:B^(n+1)*2^s<=val q*2^s:=uR _ hqge;have hVtop:B^(n+1)*2147483648<=val q*2^s:=by have h3:=z7 q (n+1);rw[yU oM] at h3;rw[h3,jK,gM];have:=wN (B^(n+1)) hs2;omega
   (have hp2:=eC s;have hBn:=QK (n:=n+1) vY;have hV0:0<val q*2^s:=by omega);have hvl:(zL (val q*2^s)).length=n+2:=by have h3:=yL hVlt;have h4:=Yv (n:=val q*2^s) (k:=n+1) oM;omega
   have hvv:=zQ (val q*2^s);have hpl:=xZ p;have hA0:val ((pad (val p*2^s) (p.length+1)).drop (p.length-q.length+1))<val q*2^s:=by
    have hpx:val p*2^s<B^(p.length+1):=by rw[uO];refine f7 (i7 hpl hp2) (wN _ ?_);exact tP (bA (show 1<2 by omega) hs1)
    (have h3:=eJ (l:=pad (val p*2^s) (p.length+1)) (p.length-q.length+1) (by grind [sJ]);rw[eH] at h3;have h4:B^p.length=B^(p.length-q.length+1)*B^(n+1):=by rw[<-jS];congr 1;omega);have h5:B^(p.length-q.length+1)*val ((pad (val p*2^s) (p.length+1)).drop (p.length-q.length+1))<B^(p.length-q.length+1)*(B^(n+1)*2^s):=by rw[<-gM,<-h4];have:=i7 hpl hp2;omega
    have:=Nat.lt_of_mul_lt_mul_left h5;omega
   (have hpadl:(pad (val p*2^s) (p.length+1)).length=p.length+1:=by refine sJ ?_;rw[uO];refine f7 (i7 hpl hp2) (wN _ ?_);exact tP (bA (show 1<2 by omega) hs1));have hpadv:=eH (val p*2^s) (p.length+1);have hfrz:((lm (pad (val q*2^s) (q.length+1))).drop 0).take (q.length+1)=lm (pad (val q*2^s) (q.length+1)):=by rw[vS];refine yU ?_;rw[zJ,sJ (gC hVlt (by rw[hn];exact bA (by decide) oM))];omega
   have hpql:(pad (val q*2^s) (q.length+1)).length=q.length+1 :=
    sJ (gC hVlt (by rw[hn];exact bA (by decide) oM))
   have hvpq:=eH (val q*2^s) (q.length+1);generalize pad (val q*2^s) (q.length+1)=vq at *;generalize hU0:pad (val p*2^s) (p.length+1)=u0 at *;refine j4 (.trans (.le (ps':=⟨[(0,nat p),(1,nat q),(9,iV s),(55,zT 55 1 (p.length+1)),(58,zT 58 1 (q.length+1))],[(55,zW 1 (lm u0)),(58,zW 1 (lm vq))]⟩) ?_ ?_ rfl) (.frz 58 rfl rfl ?_ ?_)) rfl (by refine⟨zU ?_,trivial⟩;omega) (aB vq oM) rfl ?_;{cbv;exact okA};{cbv;exact⟨zC rfl,zC rfl,trivial⟩};{cbv;refine⟨z6 ?_,trivial⟩;grind [zJ]};{exact trivial};rw[hvpq];have hdiv:val a/val b=val p*2^s/(val q*2^s):=by grind [Nat.mul_div_mul_right]
   (have hmod:val p*2^s%(val q*2^s)=(val a%val b)*2^s:=by grind [Nat.mul_mod_mul_right]);clear hVge hqge hfrz
   (generalize hVV:val q*2^s=V at *;generalize zL V=v at *;generalize hAA:val p*2^s=A at *;have hvt:=Db hvl;rw[hvv] at hvt;have hvtl:=wY v n;have hvtl1:=wY v (n+1);have hvtop:=z7 v (n+1);rw[yU oM,hvv] at hvtop;have hnorm:B<=2*(v.getD (n+1) 0).toNat:=by rcases uG (2*(v.getD (n+1) 0).toNat) B with h3|h3;{exfalso;have h4:=wN (B^(n+1)) (show (v.getD (n+1) 0).toNat+1<=2147483648 by omega);rw[kP] at h4;omega};omega);obtain⟨M,hM⟩:∃ M,M=p.length-q.length+1:=⟨_,rfl⟩;rw[<-hM] at hA0;cbv;refine⟨zE om om,zE om om,zV om om,uU om om,zE om om,?_⟩;refine zY (σ:=Nat×List UInt32×List UInt32) (λz=>⟨[(9,iV s),(10,zT 55 1 (p.length+1)),(11,nat v),(12,zT 66 1 M),(13,iV ((z.1:Int)-1))],[(55,zW 1 (lm z.2.1)),(66,zW 1 (lm z.2.2))]⟩)
    (λz=>DivInv A V (p.length+1) M z.1 z.2.1 z.2.2) (λz=>z.1) (M,u0,List.replicate M 0) ⟨yQ _,hpadl,by simp,hA0,by grind [val]⟩ (.le ?_ ?_ rfl) ?_
   {cbv;exact⟨lR,lR,lR,zR rfl (by (try dsimp only [zS] at *);grind [zJ]),zF (by (try dsimp only [zS] at *);grind [zJ]),trivial⟩};{cbv;exact⟨zC rfl,zC (ZE M _ (by (try dsimp only [zS] at *);grind [zJ])),trivial⟩};intro z hz;generalize z.1=k at *;generalize z.2.1=u at *;generalize z.2.2=out at *;cbv;refine zG (λh3=>?_) (λh3=>?_)
   ·obtain⟨i,rfl⟩:∃ i,k=i+1:=⟨k-1,by exact om⟩;have hkle:=hz.kle;have hlo:=hz.lo;obtain⟨e0,hxl,hprel,hxv,hstep⟩:=BI (n:=n) (q:=Ym (val ((u.drop i).take (n+3))) V (lH (v.getD (n+1) 0).toNat (v.getD n 0).toNat ((((u.drop i).take (n+3))).getD n 0).toNat (((((u.drop i).take (n+3)).getD (n+2) 0).toNat*B+(((u.drop i).take (n+3)).getD (n+1) 0).toNat)/(v.getD (n+1) 0).toNat) (((((u.drop i).take (n+3)).getD (n+2) 0).toNat*B+(((u.drop i).take (n+3)).getD (n+1) 0).toNat)%(v.getD (n+1) 0).toNat))) hz hVlt hV0 oM;generalize (u.drop i).take (n+3)=x at *;generalize u.take i=pre at *;generalize u.drop (i+(n+3))=post at *;have hxt:=Da hxl;have hxtl:=wY x n;have hx2:=yT (x.getD n 0);have hv2:=yT (v.getD n 0);have hv1:=yT (v.getD (n+1) 0);have hx1:=yT (x.getD (n+1) 0);have hle:(x.getD (n+2) 0).toNat<=(v.getD (n+1) 0).toNat:=by rcases uG (v.getD (n+1) 0).toNat (x.getD (n+2) 0).toNat with h4|h4;{exfalso;have h5:=z7 x (n+2);rw[yU oM] at h5;have h6:=wN (B^(n+2)) (show (v.getD (n+1) 0).toNat+1<=(x.getD (n+2) 0).toNat from h4);have h7:B*V<B*(B^(n+1)*((v.getD (n+1) 0).toNat+1)):=Nat.mul_lt_mul_of_pos_left (by rw[kP];omega) vY;rw[<-gM,show B*B^(n+1)=B^(n+2) by rw[uO B (n+1),jI]] at h7;omega};{exact h4}
    (have hS:=NQ pre x post v n hxl hvl oM oM hnorm hle;have htopv:0<(v.getD (n+1) 0).toNat:=by omega);have htop:(x.getD (n+2) 0).toNat*B+(x.getD (n+1) 0).toNat<(v.getD (n+1) 0).toNat*B+B:=by have:=uR B hle;omega
    have hq0:((x.getD (n+2) 0).toNat*B+(x.getD (n+1) 0).toNat)/(v.getD (n+1) 0).toNat<=B+1:=by
     (have h4:(x.getD (n+2) 0).toNat*B+(x.getD (n+1) 0).toNat<(B+2)*(v.getD (n+1) 0).toNat:=by rw[jK,jI B (v.getD (n+1) 0).toNat];omega);have:=(Zi htopv).2 h4;omega
    (have hr0:((x.getD (n+2) 0).toNat*B+(x.getD (n+1) 0).toNat)%(v.getD (n+1) 0).toNat<B:=gC (uQ _ htopv) hv1;have hE:=K5 (U:=val x) (V:=V) (P:=B^n) (ur:=val (x.take n)) (vr:=val (v.take n)) htopv hv2 hx2 hxt hvt hxtl hvtl hxv htop (B-((x.getD (n+2) 0).toNat*B+(x.getD (n+1) 0).toNat)%(v.getD (n+1) 0).toNat) _ _ (yQ _) (By htopv hxt hvt hxtl hx2) hr0 hq0;generalize lH (v.getD (n+1) 0).toNat (v.getD n 0).toNat (x.getD n 0).toNat (((x.getD (n+2) 0).toNat*B+(x.getD (n+1) 0).toNat)/(v.getD (n+1) 0).toNat) (((x.getD (n+2) 0).toNat*B+(x.getD (n+1) 0).toNat)%(v.getD (n+1) 0).toNat)=q0 at *;have hR:=NR pre x post v (n+2) q0 hxl hvl oM oM hE.b (by rw[hvv];exact hE.hi);rw[hvv] at hR;have hdg:=BK hV0 hE;obtain⟨hdB,hinv⟩:=hstep hdg;generalize Ym (val x) V q0=d at *;have hi1:((i+1:Nat):Int)-1=(i:Int):=by omega);cbv
    (try dsimp only [zS] at *)
    refine⟨zE om om,zE om om,qY om om om,Pj om ?_⟩;refine kW (λ_=>55) (.le (ps':=⟨[(9,iV s),(10,zT 55 1 (p.length+1)),(11,nat v),(12,zT 66 1 M),(13,iV i),(82,zT 66 1 M),(83,iV i),(84,.osl 55 1 (λ_=>pre.length) (λ_=>n+2+1)),(85,nat v),(86,.osl 55 1 (λ_=>pre.length) (λ_=>n+3)),(87,nat v)],[(55,zW 1 (lm (pre++(x++post)))),(66,zW 1 (lm out))]⟩) ?_ ?_ rfl) hS ?_;{cbv;refine⟨lR,lR,lR,lR,zF om,lR,zF om,zR ?_ ?_,lR,zR ?_ ?_,lR,trivial⟩ <;> ((try dsimp only [zS] at *);(try simp only[zJ]);omega)};{cbv;exact⟨zC (by rw[e0]),zC rfl,trivial⟩};cbv;refine kA (λ_=>55) hR ?_;cbv;refine⟨z9 om om,gI i (by simp) oM ?_⟩;cbv;refine⟨zE om om,(i,pre++(pad (val x-d*V) (n+2+1)++post),out.set i (UInt32.ofNat d)),hinv,HD i,.le ?_ ?_ rfl⟩;{cbv;exact okA};{cbv;exact⟨zC rfl,zC (fT out (by simp) rfl hdB),trivial⟩}
   ·(have hk0:k=0:=by exact om);subst hk0
    (have hlo:=hz.lo;have hlu:=hz.lu;have heq:=hz.eq;have hlt:=hz.lt;rw[vS,Nat.pow_zero,Nat.one_mul] at heq;rw[vS] at hlt;have hQ:A/V=val out:=Nat.div_eq_of_lt_le (by grind) (by grind);have hRm:A%V=val u:=by rw[<-heq,Aj];exact kL hlt);cbv
    refine j4 (.trans (.le (ps':=⟨[(9,iV s),(12,zT 66 1 M),(92,zT 55 1 (p.length+1)),(93,iV s)],[(55,zW 1 (lm u)),(66,zW 1 (lm out))]⟩) ?_ ?_ rfl) (.trans (.frz 55 rfl rfl ?_ ?_) (.frz 66 rfl rfl ?_ ?_))) rfl (by refine⟨zU ?_,lR,trivial⟩;grind [zJ]) (NP u s oM oM) rfl ?_;{cbv;exact okA};{cbv;exact⟨zC rfl,zC rfl,trivial⟩};{cbv;exact⟨z6 (by grind [zJ]),trivial⟩};{exact trivial};{cbv;exact⟨z6 (by grind [zJ]),trivial⟩};{exact trivial};cbv;refine xI rfl (by refine⟨zU ?_,trivial⟩;grind [zJ]) (aB out oM) rfl ?_;cbv;refine jL rfl ?_ rfl;refine⟨zU ?_,zU ?_,lR,trivial⟩;{grind};grind [Nat.mul_div_cancel]
def kU {n m:Nat}(h:n<=m):(zL n).length<=(zL m).length:=by rcases uG (zL m).length (zL n).length with h1|h1;{have:=Za h1;omega};omega
def NV (a b:List UInt32)(ha:a.length<2^39)(hb:b.length<2^39):zH 198 [nat a,nat b] (nat (zL (Nat.gcd (val a) (val b)))):=by
 refine sF Tryz.f198 ?_;have ha':=xR (z8 a) ha;have hb':=xR (z8 b) hb;have hBB:B*B=18446744073709551616:=by decide
 generalize hg:Nat.gcd (val a) (val b)=g;cbv;refine cA (aB a oM) ?_;cbv;refine cA (aB b oM) ?_;cbv;refine zY (σ:=Nat×Nat) (λz=>⟨[(0,nat (zL z.1)),(1,nat (zL z.2))],[]⟩) (λz=>(zL z.1).length<2^39/\(zL z.2).length<2^39/\Nat.gcd z.1 z.2=g) (λz=>z.2) (val a,val b) ⟨ha',hb',hg⟩ (.le ?_ trivial rfl) ?_;{cbv;exact okA};intro z hz;obtain⟨h1,h2,h3⟩:=hz;generalize z.1=x at *;generalize z.2=y at *;cbv;refine zG (λh4=>?_) (λh4=>?_)
 ·(cbv;have hy:y≠0:=λe=>by subst e;(try dsimp only [zS] at *);grind [lm,yV]);refine cA (Sf (zL x) (zL y) h1 h2 (by grind [zQ])) ?_
  cbv;have hm:=uQ x (s5 hy);refine⟨(y,x%y),⟨h2,xR (kU (tP hm)) h2,by grind [Nat.gcd_comm,Nat.gcd_rec]⟩,hm,.le ?_ trivial rfl⟩;cbv;exact⟨lR,zU (by grind [zQ]),trivial⟩
 {have hy2:y<B*B:=CM.1 (by (try dsimp only [zS] at *);grind [zJ]);cbv;refine zG (λh5=>?_) (λh5=>?_);{have hy:y=0:=wA.1 (gO (by (try dsimp only [zS] at *);grind [zJ]));subst hy;cbv;refine cA (D6 (zL x) oM) ?_;cbv;refine jL rfl (zU ?_) rfl;rw[zQ,<-h3,Nat.gcd_zero_right]};{have hy:y≠0:=λe=>h5 (by subst e;simp[lm,yV]);have hm:=uQ x (s5 hy);cbv;refine cA (Sf (zL x) (zL y) h1 h2 (by grind [zQ])) ?_;rw[zQ,zQ];cbv;refine cA (MQ (zL y) oM) ?_;rw[zQ,if_pos hy2];cbv;refine cA (MQ (zL (x%y)) (xR (kU (tP hm)) oM)) ?_;rw[zQ,if_pos oM];cbv;refine zY (σ:=Nat×Nat) (λz=>⟨[(11,.int .u64 (λ_=>(z.1:Int))),(13,.int .u64 (λ_=>(z.2:Int)))],[]⟩) (λz=>z.1<B*B/\z.2<B*B/\Nat.gcd z.1 z.2=g) (λz=>z.2) (y,x%y) ⟨hy2,by omega,by grind [Nat.gcd_comm,Nat.gcd_rec]⟩ (.le ?_ trivial rfl) ?_;{cbv;exact okA};clear hm hy h3 h4 h5 h1 h2 hy2;intro z hz;obtain⟨h1,h2,h3⟩:=hz;generalize z.1=x at *;generalize z.2=y at *;cbv;refine zG (λh4=>?_) (λh4=>?_);{have hy:0<y:=om;have hm:=uQ x hy;cbv;refine zP 5 (by cbv) ?_;cbv;refine⟨kN om,(y,x%y),⟨h2,by omega,by grind [Nat.gcd_comm,Nat.gcd_rec]⟩,hm,.le ?_ trivial rfl⟩;cbv;exact⟨lR,zF dM,trivial⟩};{have hy:y=0:=om;subst hy;cbv;refine cA (Sg x h1) ?_;cbv;refine jL rfl (zU ?_) rfl;grind}}}
end Go.Proofs.YtboocdbmnfjomaaGreat
namespace Go.Proofs.YtboocdbmnfjomaaGreat
structure R where
 neg:Bool
 num:List UInt32
 den:List UInt32
deriving DecidableEq
def sgn (b:Bool) (n:Nat):Int:=if b then -(n:Int) else n
def qH (b:Bool)(n:Nat):(sgn b n).natAbs=n:=by grind [sgn]
def Q3 (b:Bool):sgn b 0=0:=by cases b <;> rfl
def Ut {b:Bool}{n:Nat}:sgn b n<0↔(b=true/\n≠0):=by grind [sgn]
def Xf (z:Int):sgn (decide (z<0)) z.natAbs=z:=by grind [sgn]
def Us (a b:Bool)(n m:Nat):sgn a n*sgn b m=sgn (a != b) (n*m):=by cases a <;> cases b <;> simp[sgn,Int.neg_mul,Int.mul_neg]
def Z8 (a:Bool)(n m:Nat):sgn a n*(m:Int)=sgn a (n*m):=by grind [sgn]
def HO (a:Bool)(n:Nat):sgn (!a) n=- sgn a n:=by grind [sgn]
def R.n (x:R):Int:=sgn x.neg (val x.num)
def R.d (x:R):Nat:=if val x.den=0 then 1 else val x.den
def R.q (x:R):Rat:=mkRat x.n x.d
theorem R.d_ne (x:R):x.d≠0:=by grind [R.d]
def zK (q:Rat):R:=⟨decide (q.num<0),zL q.num.natAbs,if q.den=1 then [] else zL q.den⟩
theorem Hb (q:Rat):(zK q).n=q.num:=by simp only[R.n,zK,zQ];exact Xf _
theorem TG (q:Rat):(zK q).d=q.den:=by have:=q.den_pos;unfold R.d zK;by_cases h:q.den=1;{simp[h,val]};{simp only[h,if_false,zQ];grind}
theorem yD (q:Rat):(zK q).q=q:=by grind [R.q,Hb,TG,Rat.mkRat_self]
def uI:zK 0=⟨false,[],[]⟩:=by simp[zK,yV]
def H5 {neg:Bool}{n d:Nat}(hd:d≠0):(mkRat (sgn neg n) d).num=sgn neg (n/Nat.gcd n d):=by rw[Rat.num_mkRat,if_neg hd,qH,Nat.gcd_comm];grind [Int.natCast_dvd_natCast,Nat.gcd_dvd_left,sgn,Int.neg_ediv_of_dvd]
def H6 {neg:Bool}{n d:Nat}(hd:d≠0):(mkRat (sgn neg n) d).den=d/Nat.gcd n d:=by rw[Rat.den_mkRat,if_neg hd,qH,Nat.gcd_comm]
def Zy {neg:Bool}{n d:Nat}(hd:d≠0):zK (mkRat (sgn neg n) d)=⟨neg&&decide (n≠0),zL (n/Nat.gcd n d),if d/Nat.gcd n d=1 then [] else zL (d/Nat.gcd n d)⟩:=by
 rw[zK,H5 hd,H6 hd,qH];congr 1;rw[Bool.eq_iff_iff];have hg:0<Nat.gcd n d:=Nat.gcd_pos_of_pos_right n (Nat.pos_of_ne_zero hd);have h1:n/Nat.gcd n d=0↔n=0:=by rw[Nat.div_eq_zero_iff_lt hg];grind [Nat.gcd_le_left]
 simp only[decide_eq_true_eq,Bool.and_eq_true,Ut,ne_eq,h1]
def Cp (a b:R):a.q+b.q=mkRat (a.n*b.d+b.n*a.d) (a.d*b.d):=Rat.mkRat_add_mkRat _ _ a.d_ne b.d_ne
def Rg (a b:R):a.q*b.q=mkRat (a.n*b.n) (a.d*b.d):=Rat.mkRat_mul_mkRat _ _ _ _
def H7 (a:R):(⟨!a.neg,a.num,a.den⟩:R).q=- a.q:=by simp only[R.q,R.n,R.d,HO,Rat.neg_mkRat]
def oJ {n:Int}{d:Nat}(hd:d≠0):0<=mkRat n d↔0<=n:=by rw[<-Rat.divInt_ofNat];exact Rat.divInt_nonneg_iff_of_pos_right (by omega)
def M2 (a b:R):a.q-b.q=mkRat (a.n*b.d-b.n*a.d) (a.d*b.d):=by rw[Rat.sub_eq_add_neg,<-H7,Cp];simp only[R.n,R.d,HO,Int.neg_mul,Int.sub_eq_add_neg]
def N9 (a b:R):a.q<=b.q↔a.n*b.d<=b.n*a.d:=by rw[Rat.le_iff_sub_nonneg,M2,oJ (Nat.mul_ne_zero b.d_ne a.d_ne)];omega
def N8 (a b:R):a.q<b.q↔a.n*b.d<b.n*a.d:=by rw[<-Rat.not_le,N9];omega
theorem Fp (a:R):a.q=0↔a.n=0:=Rat.mkRat_eq_zero a.d_ne
theorem Kh (a:R):0<=a.q↔0<=a.n:=oJ a.d_ne
def Zz (a:R):a.q<0↔a.n<0:=by grind [Kh]
def M3 (a:R):0<a.q↔0<a.n:=by grind [Kh,Fp]
def yG (q:Rat):Int:=if q<0 then -1 else if 0<q then 1 else 0
def wX (a b:Rat):Int:=if a<b then -1 else if b<a then 1 else 0
def jV (z:Int):Int:=if z<0 then -1 else if 0<z then 1 else 0
def Yx (a b:Int):Int:=if a<b then -1 else if b<a then 1 else 0
def DB (a:R):yG a.q=jV a.n:=by simp only[yG,jV,Zz,M3]
def TP (a b:R):wX a.q b.q=Yx (a.n*b.d) (b.n*a.d):=by simp only[wX,Yx,N8]
structure Fits (k:Nat) (q:Rat):Prop where
 num:q.num.natAbs<B^k
 den:q.den<B^k
theorem Fits.mono {k m:Nat}{q:Rat}(h:Fits k q)(hm:k<=m):Fits m q :=
 ⟨Nat.lt_of_lt_of_le h.num (Nat.pow_le_pow_right vY hm),Nat.lt_of_lt_of_le h.den (Nat.pow_le_pow_right vY hm)⟩
def tA {k:Nat}{n:Int}{d:Nat}(hn:n.natAbs<B^k)(hd:d<B^k)(h0:d≠0):Fits k (mkRat n d):=by have hs:n=sgn (decide (n<0)) n.natAbs:=(Xf n).symm;rw[hs];refine⟨?_,?_⟩;{rw[H5 h0,qH];exact Nat.lt_of_le_of_lt (Nat.div_le_self _ _) hn};{rw[H6 h0];exact Nat.lt_of_le_of_lt (Nat.div_le_self _ _) hd}
def Tr {k:Nat}{x:R}(h1:x.num.length<=k)(h2:x.den.length<=k)(hk:1<=k):Fits k x.q:=by refine tA ?_ ?_ x.d_ne;{rw[R.n,qH];exact Nat.lt_of_lt_of_le (xZ _) (Nat.pow_le_pow_right vY h1)};{unfold R.d;split;{exact Nat.lt_of_lt_of_le (show 1<B^1 by decide) (Nat.pow_le_pow_right vY hk)};{exact Nat.lt_of_lt_of_le (xZ _) (Nat.pow_le_pow_right vY h2)}}
theorem Fits.lnum {k:Nat}{q:Rat}(h:Fits k q):(zK q).num.length<=k:=yL h.num
theorem Fits.lden {k:Nat}{q:Rat}(h:Fits k q):(zK q).den.length<=k:=by unfold zK;by_cases h1:q.den=1;{simp[h1]};{simp only[h1,if_false];exact yL h.den}
def gX {a b k m:Nat}(ha:a<B^k)(hb:b<B^m):a*b<B^(k+m):=by rw[Nat.pow_add];exact Nat.mul_lt_mul'' ha hb
def wG {k m:Nat}{a b:Rat}(ha:Fits k a)(hb:Fits m b):Fits (k+m) (a*b):=by rw[Rat.mul_def'];refine tA ?_ (gX ha.den hb.den) (Nat.mul_ne_zero a.den_nz b.den_nz);rw[Int.natAbs_mul];exact gX ha.num hb.num
theorem qE {k m:Nat}{a b:Rat}(ha:Fits k a)(hb:Fits m b):Fits (k+m+1) (a+b):=by rw[Rat.add_def'];have h1:=gX ha.num hb.den;have h2:=gX hb.num ha.den;rw[Nat.add_comm m k] at h2;have h3:B^(k+m+1)=B^(k+m)*B:=Nat.pow_succ _ _;have hd:=gX ha.den hb.den;have h5:B^(k+m)*2<=B^(k+m)*B:=Nat.mul_le_mul_left _ (by decide);refine tA ?_ ?_ (Nat.mul_ne_zero a.den_nz b.den_nz);{grind [Int.natAbs_add_le,Int.natAbs_mul]};omega
theorem bM {k:Nat}{a:Rat}(ha:Fits k a):Fits k (-a):=⟨by rw[Rat.neg_num,Int.natAbs_neg];exact ha.num,by rw[Rat.neg_den];exact ha.den⟩
def sQ {k m:Nat}{a b:Rat}(ha:Fits k a)(hb:Fits m b):Fits (k+m+1) (a-b):=by grind [Rat.sub_eq_add_neg,qE,bM]
theorem wJ {k:Nat}(hk:1<=k):Fits k 0 :=
 ⟨by simp;exact Nat.pow_pos vY,by simp;exact Nat.lt_of_lt_of_le (show 1<B^1 by decide) (Nat.pow_le_pow_right vY hk)⟩
def mV {k:Nat}{z:Int}(h:z.natAbs<B^k)(hk:1<=k):Fits k (z:Rat) :=
 ⟨by simp_all,by simp;exact Nat.lt_of_lt_of_le (show 1<B^1 by decide) (Nat.pow_le_pow_right vY hk)⟩
def Wf {k:Nat}{a:Rat}(ha:Fits k a):Fits k a⁻¹:=by
 refine⟨?_,?_⟩
 ·(rw[Rat.num_inv,Int.natAbs_mul];have h1:a.num.sign.natAbs<=1:=by grind);have h2:=ha.den
  grind
 {rw[Rat.den_inv];split;{have:=ha.den;simp_all};{exact ha.num}}
def R.ok (x:R):Bool:=decide (x=zK x.q)
theorem UP (q:Rat):(zK q).ok=true:=by simp[R.ok,yD]
end Go.Proofs.YtboocdbmnfjomaaGreat
namespace Go.Proofs.YtboocdbmnfjomaaGreat
open Go
set_option maxRecDepth 100000
def wK {nb:Bool}{objs:List (Nat×Obj')}{f:FuncId}{args args':List PV}{K:PV->Prop}{r:PV}(h2:jC les args args')(h3:zH f args' r)(h5:nmIn [] r=true)(h4:K r):CallS nb objs f args K:=⟨.inl ⟨args',r,p6 h2,h3,h5,h4⟩⟩
def dA {nb:Bool}{objs:List (Nat×Obj')}{f:FuncId}{args args':List PV}{K:PV->Prop}{r:PV}(h3:zH f args' r)(h4:K r)(h2:jC les args args':=by exact okA)(h5:nmIn [] r=true:=by exact rfl):CallS nb objs f args K:=wK h2 h3 h5 h4
def jY (a b:List UInt32):(zL (val a*val b)).length<=a.length+b.length:=yL (gX (xZ a) (xZ b))
def Gk (a b:List UInt32):(zL (val a+val b)).length<=a.length+b.length+1:=by refine yL ?_;have h1:=f7 (xZ a) (c8 vY (Nat.le_add_right a.length b.length));have h2:=f7 (xZ b) (c8 vY (Nat.le_add_left b.length a.length));have h3:B^(a.length+b.length)*2<=B^(a.length+b.length)*B:=wN _ (by decide);rw[uO];omega
def YJ (a b:List UInt32):(zL (val a-val b)).length<=a.length:=yL (xR (Nat.sub_le _ _) (xZ a))
structure Z where
 neg:Bool
 mag:List UInt32
def Z.v (x:Z):Int:=sgn x.neg (val x.mag)
def x7 (z:Int):Z:=⟨decide (z<0),zL z.natAbs⟩
theorem d7 (z:Int):(x7 z).v=z:=by simp only[Z.v,x7,zQ];exact Xf z
abbrev zv (x:Z):PV:=.agg [zM x.neg,nat x.mag]
def KE (neg:Bool)(n:Nat):x7 (sgn neg n)=⟨neg&&decide (n≠0),zL n⟩:=by simp only[x7,qH];congr 1;rw[rK];simp only[decide_eq_true_eq,Ut,xA]
def Dz {b:Bool}{n:Nat}(h:¬sgn b n<0):sgn b n=(n:Int):=by cases b;{rfl};{simp only[sgn,if_true] at h ⊢;omega}
def D7 (neg:Bool)(m:List UInt32)(hm:m.length<2^40):zH 187 [zM neg,nat m] (zv (x7 (sgn neg (val m)))):=by
 refine sF Tryz.f187 ?_;rw[KE];cbv;refine cA (D6 m hm) ?_;cbv;refine yI (λh=>?_) (λh=>?_)
 ·subst h;cbv
  (refine rC ?_;cbv)
  refine⟨z4 ?_,lR,trivial⟩;rw[rK];simp only[decide_eq_true_eq,zJ,xQ];rw[<-@wA (val m),<-HC]
  (try dsimp only [zS] at *)
  omega
 {subst h;cbv;exact rA}
def N2 (x:Int)(h1:-9223372036854775808<=x)(h2:x<9223372036854775808):zH 217 [iV x] (zv (x7 x)):=by
 refine sF Tryz.f217 ?_;have hBB:B*B=18446744073709551616:=by decide
 have e:zv (x7 x)=.agg [zM (decide (x<0)),nat (zL x.natAbs)]:=rfl;rw[e];cbv;refine zG (λh=>?_) (λh=>?_)
 ·(have e1:nx .u64 (0-nx .u64 x)=((x.natAbs:Nat):Int):=by grind [uM]);generalize hn:x.natAbs=n at *
  cbv;refine xI rfl (by exact⟨zF e1,trivial⟩) (Sg n oM) rfl ?_;cbv
  (refine rC ?_;cbv)
  exact⟨yN (decide_eq_true h),lR,trivial⟩
 ·(have e1:nx .u64 x=((x.natAbs:Nat):Int):=by grind [uM]);generalize hn:x.natAbs=n at *
  cbv;refine xI rfl (by exact⟨zF e1,trivial⟩) (Sg n oM) rfl ?_;cbv
  (refine rC ?_;cbv)
  exact⟨zO (decide_eq_false h),lR,trivial⟩
def PW (x:Z)(hx:x.mag.length<2^40):zH 127 [zv x] (iV (jV x.v)):=by
 refine sF Tryz.f127 ?_;obtain⟨neg,mag⟩:=x;have hv:Z.v ⟨neg,mag⟩=sgn neg (val mag):=rfl;rw[hv];have h0:((gL (val mag):Nat):Int)=0↔val mag=0:=by grind [n8]
 have hs:=MW mag hx;generalize gL (val mag)=b at h0 hs;generalize hS:jV (sgn neg (val mag))=S at *;cbv;refine cA hs ?_;cbv;refine zG (λh=>?_) (λh=>?_)
 ·cbv
  (refine rC ?_;cbv)
  refine zF ?_;rw[<-hS,h0.1 h,Q3];rfl
 ·have hne:val mag≠0:=λe=>h (h0.2 e);cbv;refine zZ (λh2=>?_) (λh2=>?_)
  ·subst h2;cbv
   (refine rC ?_;cbv)
   refine zF ?_;rw[<-hS,show sgn true (val mag)=-(val mag:Int) from rfl];unfold jV;omega
  ·subst h2;cbv
   (refine rC ?_;cbv)
   refine zF ?_;rw[<-hS,show sgn false (val mag)=(val mag:Int) from rfl];unfold jV;omega
def NX (x y:Z)(hx:x.mag.length<2^40)(hy:y.mag.length<2^40):zH 98 [zv x,zv y] (iV (Yx x.v y.v)):=by
 refine sF Tryz.f98 ?_;have hsx:=PW x hx;have hsy:=PW y hy;have hxv:x.v=sgn x.neg (val x.mag):=rfl;have hyv:y.v=sgn y.neg (val y.mag):=rfl;have h1:jV x.v<jV y.v->Yx x.v y.v=-1:=by intro h;unfold jV at h;unfold Yx;split at h <;> split at h <;> (try split at h) <;> (try split at h) <;> first|(rw[if_pos oM])|omega
 have h2:jV y.v<jV x.v->Yx x.v y.v=1:=by intro h;unfold jV at h;unfold Yx;split at h <;> split at h <;> (try split at h) <;> (try split at h) <;> first|(rw[if_neg oM,if_pos oM])|omega
 have h3:jV x.v=jV y.v->jV x.v<0->Yx x.v y.v=qV (val y.mag) (val x.mag):=by
  (intro h h';have a1:x.v<0:=by unfold jV at h';split at h' <;> (try split at h') <;> omega);have a2:y.v<0:=by rw[h] at h';unfold jV at h';split at h' <;> (try split at h') <;> omega
  rw[hxv,Ut] at a1;rw[hyv,Ut] at a2;rw[hxv,hyv,a1.1,a2.1];simp only[Yx,qV,sgn,if_true];omega
 have h4:jV x.v=jV y.v->¬jV x.v<0->Yx x.v y.v=qV (val x.mag) (val y.mag):=by
  (intro h h';have a1:¬x.v<0:=by unfold jV at h';split at h' <;> (try split at h') <;> omega);have a2:¬y.v<0:=by rw[h] at h';unfold jV at h';split at h' <;> (try split at h') <;> omega
  (have b1:x.v=(val x.mag:Int):=by rw[hxv] at a1 ⊢;exact Dz a1);have b2:y.v=(val y.mag:Int):=by rw[hyv] at a2 ⊢;exact Dz a2
  grind [Yx,qV]
 generalize Yx x.v y.v=C at *;generalize jV x.v=s at *;generalize jV y.v=t at *;cbv;refine zP 4 (by cbv) ?_;cbv;refine dA hsx ?_;cbv;refine dA hsy ?_;cbv;refine zG (λh=>?_) (λh=>?_)
 ·cbv
  (refine rC ?_;cbv)
  exact zF (h1 h).symm
 ·cbv;refine zG (λh'=>?_) (λh'=>?_)
  ·cbv
   (refine rC ?_;cbv)
   exact zF (h2 h').symm
  ·(have he:s=t:=by omega);cbv
   refine zG (λh5=>?_) (λh5=>?_);{have h6:=h3 he h5;have h7:=JV y.mag x.mag hy hx;rw[<-h6] at h7;cbv;refine cA h7 ?_;cbv;exact rA};{have h6:=h4 he h5;have h7:=JV x.mag y.mag hx hy;rw[<-h6] at h7;cbv;refine cA h7 ?_;cbv;exact rA}
def NZ (x y:Z)(hx:x.mag.length<2^38)(hy:y.mag.length<2^38):zH 149 [zv x,zv y] (zv (x7 (x.v+y.v))):=by
 refine sF Tryz.f149 ?_;obtain⟨n1,m1⟩:=x;obtain⟨n2,m2⟩:=y;have hv:Z.v ⟨n1,m1⟩+Z.v ⟨n2,m2⟩=sgn n1 (val m1)+sgn n2 (val m2):=rfl;have hl:=Gk m1 m2;have hl1:=YJ m1 m2;have hl2:=YJ m2 m1;have hx':m1.length<2^38:=hx;have hy':m2.length<2^38:=hy;rw[hv];have c1:n1=n2->zH 187 [zM n1,nat (zL (val m1+val m2))] (zv (x7 (sgn n1 (val m1)+sgn n2 (val m2)))):=by intro h;have:=D7 n1 (zL (val m1+val m2)) oM;rw[zQ] at this;grind [sgn]
 have c2:n1≠n2->¬qV (val m1) (val m2)<0->zH 187 [zM n1,nat (zL (val m1-val m2))] (zv (x7 (sgn n1 (val m1)+sgn n2 (val m2)))):=by
  intro h h';have hge:val m2<=val m1:=by unfold qV at h';omega
  (have:=D7 n1 (zL (val m1-val m2)) oM;rw[zQ] at this;have e:sgn n1 (val m1-val m2)=sgn n1 (val m1)+sgn n2 (val m2):=by grind [sgn]);grind
 have c3:n1≠n2->qV (val m1) (val m2)<0->zH 187 [zM n2,nat (zL (val m2-val m1))] (zv (x7 (sgn n1 (val m1)+sgn n2 (val m2)))):=by
  intro h h';have hge:val m1<=val m2:=by unfold qV at h';omega
  (have:=D7 n2 (zL (val m2-val m1)) oM;rw[zQ] at this;have e:sgn n2 (val m2-val m1)=sgn n1 (val m1)+sgn n2 (val m2):=by grind [sgn]);simp_all
 have c0:=JV m1 m2 oM oM;generalize qV (val m1) (val m2)=cm at *;generalize sgn n1 (val m1)+sgn n2 (val m2)=T at *;cbv;refine zG (λh=>?_) (λh=>?_);{have h':=c1 h;generalize x7 T=W at *;cbv;refine zP 8 (by cbv) ?_;cbv;refine dA (NW m1 m2 oM oM) ?_;cbv;refine dA h' ?_;cbv;exact rA};{have h2:=c2 h;have h3:=c3 h;generalize x7 T=W at *;cbv;refine cA c0 ?_;cbv;refine zG (λh4=>?_) (λh4=>?_);{cbv;refine cA (MS m2 m1 oM oM) ?_;cbv;refine cA (h3 h4) ?_;cbv;exact rA};{cbv;refine cA (MS m1 m2 oM oM) ?_;cbv;refine cA (h2 h4) ?_;cbv;exact rA}}
def MT (x y:Z)(hx:x.mag.length<2^38)(hy:y.mag.length<2^38):zH 155 [zv x,zv y] (zv (x7 (x.v*y.v))):=by
 refine sF Tryz.f155 ?_;obtain⟨n1,m1⟩:=x;obtain⟨n2,m2⟩:=y;have hl:=jY m1 m2;have hx':m1.length<2^38:=hx;have hy':m2.length<2^38:=hy;have hv:Z.v ⟨n1,m1⟩*Z.v ⟨n2,m2⟩=sgn (n1 != n2) (val m1*val m2):=Us _ _ _ _;rw[hv];have c1:=D7 (n1 != n2) (zL (val m1*val m2)) oM;rw[zQ] at c1;have hb:(n1 != n2)=!decide (n1=n2):=by grind
 generalize x7 (sgn (n1 != n2) (val m1*val m2))=W at *;generalize hnb:(n1 != n2)=nb at *;cbv;refine zP 11 (by cbv) ?_;cbv;refine dA (Fg m1 m2 oM oM) ?_;cbv;refine wK (by exact⟨vW hb,lR,trivial⟩) c1 rfl ?_;cbv;exact rA
end Go.Proofs.YtboocdbmnfjomaaGreat
