/- A part of the proof: NtI, NtJ, PnC, IgA. -/
import Derived.Test.YtaeaffgjdcigoaaGreatC16
import Derived.Test.YtaeaffgjdcigoaaGreatC14
set_option linter.all false
namespace Go.Proofs.YtaeaffgjdcigoaaGreat
open Go
set_option maxRecDepth 100000
theorem y0 {g:Operand}{as_:List Operand}{dst:Option Nat}{ps ps':PS}{K:PS->Prop}{f:FuncId}{caps cargs:List PV}{kept eaten:List (Nat×Obj')}{r:PV}{kept' made:List (Nat×Obj')}(hn:Nat->Nat)(hw:Wk ps ps') (h1:ev (zB ps'.tmps) g=.fn f caps) (h2:gD les (evs (ev (zB ps'.tmps)) as_++caps) (renL hn cargs)) (h3:Sound f cargs kept eaten r kept' made) (h4:kF hn ps'.objs (kept++eaten)) (h5:ndO (z5 hn (kept++eaten))=true) (h5':ndO (kept++eaten)=true) (h6:pM (mC (kept'++made)) (kept'++made)=true) (h7:ndO (z5 hn made)=true) (h8:nX hn (iG hn eaten ps') made=true) (h9:yR lv cargs=true) (h10:lv r=true) (h11:nmIn (mC (kept'++made)) r=true) (h12:K (put (nJ hn eaten kept' made ps') dst (ren hn r))):CallOk g as_ dst ps K :=
 ⟨ps',hw,f,caps,h1,.inr ⟨hn,cargs,kept,eaten,r,kept',made,nV h2,h3,h4,h5,h5',h6,h7,h8,h9,h10,h11,h12⟩⟩
theorem zAW:∀ (n x:Nat),x<=n->x<4294967296->x<2^Lib.bitLen x
 |0,x,h,_=>by
  (have:x=0:=by omega);subst this
  exact zHA _
 |n+1,x,h,hx=>by rcases zHB x with e|e;{subst e;exact zHA _};{rw[Lib.bitLen_half x oM oM,zE5,uG];have:=zAW n (x/2) oM oM;omega}
theorem zP8 {x:Nat}(h:x≠0)(hx:x<4294967296):2^(Lib.bitLen x-1)<=x:=by rcases uQ x (2^(Lib.bitLen x-1)) with h1|h1;{have h2:=Lib.bitLen_le x (Lib.bitLen x-1) (by grind [dT]) h1;grind};omega
theorem zLS {x:Nat}(h:x≠0)(hx:x<4294967296):32-Lib.bitLen x<32/\2147483648<=x*2^(32-Lib.bitLen x)/\x*2^(32-Lib.bitLen x)<4294967296:=by
 have h1:=zP8 h hx;have h2:=zAW x x (zZ _) hx;have h3:=dT hx;have h4:=zCV h hx;generalize Lib.bitLen x=k at *
 refine⟨by omega,?_,?_⟩;{have h5:=qV (2^(32-k)) h1;rw[<-bD] at h5;grind};{have h5:=iZ h2 (zHA (32-k));rw[<-bD] at h5;grind}
theorem zW2:Pg.funcs[286]?=some Tryz.f286:=by rw[uV];rfl
theorem yAZ (a b:List UInt32)(ha:a.length<2^39)(hb:b.length<2^39)(h0:val b=0):zE 286 [nat a,nat b] (.tup [.nil,.nil,.int .i64 (fun _=>3)]):=by refine cH zW2 rfl rfl rfl rfl rfl ?_;cbv;refine cA (cL a oM) ?_;cbv;refine cA (cL b oM) ?_;rw[h0,yZ];cbv;refine zG (fun h=>?_) (fun h=>absurd rfl h);cbv;exact jZ rfl okA rfl
theorem zYE {p:List UInt32}(hc:bA p=true){n:Nat}(hl:p.length=n+1):B^n<=val p:=by
 have hne:p≠[]:=fun e=>by grind
 have h1:=p5 hne;rw[hc] at h1;have h2:(p.getD n 0).toNat≠0:=by
  (intro e;have:p.getD (p.length-1) 0=0:=by rw[hl];exact zC0.1 e);grind
 have h3:=zW p n;rw[yS oM] at h3;have:=wG (B^n) (show 1<=(p.getD n 0).toNat by omega);omega
structure DivInv (A V N M:Nat) (k:Nat) (u out:List UInt32):Prop where
 kle:k<=M
 lu:u.length=N
 lo:out.length=M
 lt:val (u.drop k)<V
 eq:val u+V*(B^k*val (out.drop k))=A
theorem zR3 {A V N M i n q:Nat}{u out:List UInt32}(h:DivInv A V N M (i+1) u out)(hV:V<B^(n+2))(h0:0<V)(hN:i+n+3<=N):let x:=(u.drop i).take (n+3)
  let pre:=u.take i
  let post:=u.drop (i+(n+3))
  u=pre++(x++post)/\x.length=n+3/\pre.length=i/\val x<B*V/\(q=val x/V->q<B/\DivInv A V N M i (pre++(pad (val x-q*V) (n+3)++post)) (out.set i (UInt32.ofNat q))):=by
 intro x pre post;have hlu:=h.lu;have e1:x++post=u.drop i:=by show (u.drop i).take (n+3)++u.drop (i+(n+3))=u.drop i;rw[<-i3,zQL]
 have e0:u=pre++(x++post):=by grind [List.take_append_drop]
 have hxl:x.length=n+3:=by show ((u.drop i).take (n+3)).length=_;rw[j5,m8];omega
 have hpl:pre.length=i:=by grind
 have hpost:val post=0:=by have h2:=zBI (l:=u.drop (i+1)) (n+2) (by rw[m8];omega) (bC h.lt hV);grind [List.drop_drop]
 have hdi:val (u.drop i)=val x:=by grind [vM]
 have hxv:val x<B*V:=by have h3:=kT (l:=u) (i:=i) oM;have h4:=yL (u.getD i 0);have h5:=wG B (show val (u.drop (i+1))+1<=V from h.lt);grind
 refine⟨e0,hxl,hpl,hxv,fun hq=>?_⟩;obtain⟨r1,r2,r3⟩:=zP4 (pre:=pre) (x:=x) (post:=post) (V:=V) (n:=n+2) hxl hpost (by grind) hV h0 hq;have r3:val (pre++(pad (val x-q*V) (n+3)++post))+V*(B^pre.length*q)=val (pre++(x++post)):=r3;have hk:=h.kle;have hlo:=h.lo;refine⟨r1,by omega,?_,by grind,?_,?_⟩
 ·(have hpad:(pad (val x-q*V) (n+3)).length=n+3:=by refine aW (xP (Nat.sub_le _ _) ?_);grind [xZ]);grind
 {grind};{have h6:=h.eq;grind [eD,xW,Nat.mod_eq_of_lt]}
theorem s226 (a b:List UInt32)(ha:a.length<2^39)(hb:b.length<2^39)(h0:val b≠0):zE 286 [nat a,nat b] (.tup [nat (zK (val a/val b)),nat (zK (val a%val b)),.int .i64 (fun _=>0)]):=by
 refine cH zW2 rfl rfl rfl rfl rfl ?_;have ha':=xP (zX a) ha;have hb':=xP (zX b) hb;have hB:B=4294967296:=rfl;cbv;refine cA (cL a oM) ?_;cbv;refine cA (cL b oM) ?_;have hva:val (zK (val a))=val a:=zO _;have hvb:val (zK (val b))=val b:=zO _;have hca:=sY (val a);have hcb:=sY (val b);have hqne:(zK (val b)).length≠0:=fun e=>h0 (x8.1 (kR e));have hlen:¬val a<val b->(zK (val b)).length<=(zK (val a)).length:=by intro h;rcases uQ (zK (val a)).length (zK (val b)).length with h1|h1;{exact absurd (o9 h1) h};omega
 generalize zK (val a)=p at *
 generalize zK (val b)=q at *
 cbv;refine zG (fun h=>absurd (show q.length=0 by (try dsimp only [zF] at *);grind [zH]) hqne) (fun h=>?_);cbv;refine cA (s162 p q oM oM) ?_;rw[hva,hvb];have hcmp:qJ (val a) (val b)<0↔val a<val b:=by grind [qJ]
 generalize qJ (val a) (val b)=cm at *
 cbv;refine zG (fun h1=>?_) (fun h1=>?_);{have hlt:=hcmp.1 h1;cbv;refine cA (s223 p oM) ?_;cbv;refine jZ rfl ?_ rfl;refine⟨yW ?_,zR ?_,lR,trivial⟩;{rw[zMN hlt,yZ];rfl};{rw[hva,qU hlt]}}
 ·have hge:¬val a<val b:=fun e=>h1 (hcmp.2 e);have hlpq:=hlen hge;cbv;refine zG (fun h2=>?_) (fun h2=>?_)
  ·(have hq1:q.length=1:=by (try dsimp only [zF] at *);grind [zH]);cbv
   (refine xG 0 rfl oM ?_;cbv;have hvq:val b=(q.getD 0 0).toNat:=by have:=zW q 0;grind [val]);refine cA (s232 p (q.getD 0 0).toNat oM (yL _) oM) ?_;cbv;refine jZ rfl ?_ rfl;exact⟨zR (by grind),zR (by grind),lR,trivial⟩
  ·(have hq2:q.length≠1:=by (try dsimp only [zF] at *);grind [zH]);obtain⟨n,hn⟩:∃ n,q.length=n+2:=⟨q.length-2,by omega⟩
   have htl:(q.getD (n+1) 0).toNat≠0:=by
    (intro e;have h3:=p5 (l:=q) (fun e=>by grind);have:q.getD (q.length-1) 0=0:=by rw[hn];exact zC0.1 e);grind
   (obtain⟨hs1,hs2,hs3⟩:=zLS htl (yL (q.getD (n+1) 0));have hbl:=dT (yL (q.getD (n+1) 0));cbv;refine⟨zD om om,xG (n+1) om om ?_⟩;cbv;refine cA (s233 (q.getD (n+1) 0).toNat (yL _)) ?_;have hsi:(32:Int)-((Lib.bitLen (q.getD (n+1) 0).toNat:Nat):Int)=((32-Lib.bitLen (q.getD (n+1) 0).toNat:Nat):Int):=by omega);rw[hsi]
   generalize hsd:32-Lib.bitLen (q.getD (n+1) 0).toNat=s at *
   cbv;refine y0 (fun _=>55) (.refl _) rfl okA (s234 p s oM hs1) trivial rfl rfl rfl rfl rfl rfl rfl rfl ?_;cbv;refine y0 (fun _=>58) (.refl _) rfl okA (s234 q s oM hs1) trivial rfl rfl rfl rfl rfl rfl rfl rfl ?_;cbv
   
   have hVlt:val q*2^s<B^(n+2):=by
    have h3:=zW q (n+1);have h4:=wY q (n+1);rw[yS oM] at h3;rw[h3,gF,jX,show B^(n+2)=B^(n+1)*B from uG _ _];have h5:=iZ h4 (zHA s);have h6:(q.getD (n+1) 0).toNat*2^s+2^s<=B:=by
     (obtain⟨z,hz⟩:2^s ∣ B:=⟨2^(32-s),by rw[<-bD];grind⟩;rw[hz,qY _ (2^s),<-Nat.mul_succ];refine wG _ ?_;have:2^s*(q.getD (n+1) 0).toNat<2^s*z:=by grind);exact Nat.lt_of_mul_lt_mul_left this
    have h7:=wG (B^(n+1)) h6;rw[qH] at h7;omega
   have hqge:=zYE hcb (n:=n+1) hn;have hVge:B^(n+1)*2^s<=val q*2^s:=qV _ hqge;have hVtop:B^(n+1)*2147483648<=val q*2^s:=by have h3:=zW q (n+1);rw[yS oM] at h3;rw[h3,gF,jX];have:=wG (B^(n+1)) hs2;omega
   (have hp2:=zHA s;have hBn:=Nat.pow_pos (n:=n+1) w5;have hV0:0<val q*2^s:=by omega);have hvl:(zK (val q*2^s)).length=n+2:=by have h3:=yF hVlt;have h4:=zBH (n:=val q*2^s) (k:=n+1) oM;omega
   have hvv:=zO (val q*2^s);have hpl:=xZ p;have hA0:val ((pad (val p*2^s) (p.length+1)).drop (p.length-q.length+1))<val q*2^s:=by
    have hpx:val p*2^s<B^(p.length+1):=by rw[uG];refine uI (iZ hpl hp2) (wG _ ?_);exact zCZ (pC (show 1<2 by omega) hs1)
    (have h3:=eE (l:=pad (val p*2^s) (p.length+1)) (p.length-q.length+1) (by grind [aW]);rw[i9] at h3;have h4:B^p.length=B^(p.length-q.length+1)*B^(n+1):=by rw[<-bD];congr 1;omega);have h5:B^(p.length-q.length+1)*val ((pad (val p*2^s) (p.length+1)).drop (p.length-q.length+1))<B^(p.length-q.length+1)*(B^(n+1)*2^s):=by rw[<-jX,<-h4];have:=iZ hpl hp2;omega
    have:=Nat.lt_of_mul_lt_mul_left h5;omega
   (have hpadl:(pad (val p*2^s) (p.length+1)).length=p.length+1:=by refine aW ?_;rw[uG];refine uI (iZ hpl hp2) (wG _ ?_);exact zCZ (pC (show 1<2 by omega) hs1));have hpadv:=i9 (val p*2^s) (p.length+1);have hfrz:((lm (pad (val q*2^s) (q.length+1))).drop 0).take (q.length+1)=lm (pad (val q*2^s) (q.length+1)):=by rw[wC];refine yS ?_;rw[zH,aW (bC hVlt (by rw[hn];exact pC (by decide) oM))];omega
   have hpql:(pad (val q*2^s) (q.length+1)).length=q.length+1 :=
    aW (bC hVlt (by rw[hn];exact pC (by decide) oM))
   have hvpq:=i9 (val q*2^s) (q.length+1);generalize pad (val q*2^s) (q.length+1)=vq at *
   generalize hU0:pad (val p*2^s) (p.length+1)=u0 at *
   refine kQ (.trans (.le (ps':=⟨[(0,nat p),(1,nat q),(9,.int .i64 (fun _=>(s:Int))),(55,.osl 55 1 (fun _=>0) (fun _=>p.length+1)),(58,.osl 58 1 (fun _=>0) (fun _=>q.length+1))],[(55,.arr 1 (fun _=>lm u0)),(58,.arr 1 (fun _=>lm vq))]⟩) ?_ ?_ rfl) (.frz 58 rfl rfl ?_ ?_)) rfl (by refine⟨zR ?_,trivial⟩;omega) (cL vq oM) rfl ?_;{cbv;exact okA};{cbv;exact⟨zI rfl,zI rfl,trivial⟩};{cbv;refine⟨z8 ?_,trivial⟩;grind [zH]};{exact trivial};rw[hvpq];have hdiv:val a/val b=val p*2^s/(val q*2^s):=by grind [Nat.mul_div_mul_right]
   (have hmod:val p*2^s%(val q*2^s)=(val a%val b)*2^s:=by grind [Nat.mul_mod_mul_right]);clear hVge hqge hfrz
   generalize hVV:val q*2^s=V at *
   generalize zK V=v at *
   generalize hAA:val p*2^s=A at *
   (have hvt:=zQT hvl;rw[hvv] at hvt;have hvtl:=wY v n;have hvtl1:=wY v (n+1);have hvtop:=zW v (n+1);rw[yS oM,hvv] at hvtop;have hnorm:B<=2*(v.getD (n+1) 0).toNat:=by rcases uQ (2*(v.getD (n+1) 0).toNat) B with h3|h3;{exfalso;have h4:=wG (B^(n+1)) (show (v.getD (n+1) 0).toNat+1<=2147483648 by omega);rw[qH] at h4;omega};omega);obtain⟨M,hM⟩:∃ M,M=p.length-q.length+1:=⟨_,rfl⟩;rw[<-hM] at hA0;cbv;refine⟨zD om om,zD om om,yD om om,jO om om,zD om om,?_⟩;refine z3 (σ:=Nat×List UInt32×List UInt32) (fun z=>⟨[(9,.int .i64 (fun _=>(s:Int))),(10,.osl 55 1 (fun _=>0) (fun _=>p.length+1)),(11,nat v),(12,.osl 66 1 (fun _=>0) (fun _=>M)),(13,.int .i64 (fun _=>(z.1:Int)-1))],[(55,.arr 1 (fun _=>lm z.2.1)),(66,.arr 1 (fun _=>lm z.2.2))]⟩)
    (fun z=>DivInv A V (p.length+1) M z.1 z.2.1 z.2.2) (fun z=>z.1) (M,u0,List.replicate M 0) ⟨zZ _,hpadl,by simp,hA0,by grind [val]⟩ (.le ?_ ?_ rfl) ?_
   {cbv;exact⟨lR,lR,lR,yC rfl (by (try dsimp only [zF] at *);grind [zH]),zC (by (try dsimp only [zF] at *);grind [zH]),trivial⟩};{cbv;exact⟨zI rfl,zI (zBV M _ (by (try dsimp only [zF] at *);grind [zH])),trivial⟩};intro z hz;generalize z.1=k at *
   generalize z.2.1=u at *
   generalize z.2.2=out at *
   cbv;refine zG (fun h3=>?_) (fun h3=>?_)
   ·obtain⟨i,rfl⟩:∃ i,k=i+1:=⟨k-1,by (try dsimp only [zF] at *);omega⟩;have hkle:=hz.kle;have hlo:=hz.lo;obtain⟨e0,hxl,hprel,hxv,hstep⟩:=zR3 (n:=n) (q:=zE4 (val ((u.drop i).take (n+3))) V (lG (v.getD (n+1) 0).toNat (v.getD n 0).toNat ((((u.drop i).take (n+3))).getD n 0).toNat (((((u.drop i).take (n+3)).getD (n+2) 0).toNat*B+(((u.drop i).take (n+3)).getD (n+1) 0).toNat)/(v.getD (n+1) 0).toNat) (((((u.drop i).take (n+3)).getD (n+2) 0).toNat*B+(((u.drop i).take (n+3)).getD (n+1) 0).toNat)%(v.getD (n+1) 0).toNat))) hz hVlt hV0 oM;generalize (u.drop i).take (n+3)=x at *
    generalize u.take i=pre at *
    generalize u.drop (i+(n+3))=post at *
    have hxt:=zQS hxl;have hxtl:=wY x n;have hx2:=yL (x.getD n 0);have hv2:=yL (v.getD n 0);have hv1:=yL (v.getD (n+1) 0);have hx1:=yL (x.getD (n+1) 0);have hle:(x.getD (n+2) 0).toNat<=(v.getD (n+1) 0).toNat:=by rcases uQ (v.getD (n+1) 0).toNat (x.getD (n+2) 0).toNat with h4|h4;{exfalso;have h5:=zW x (n+2);rw[yS oM] at h5;have h6:=wG (B^(n+2)) (show (v.getD (n+1) 0).toNat+1<=(x.getD (n+2) 0).toNat from h4);have h7:B*V<B*(B^(n+1)*((v.getD (n+1) 0).toNat+1)):=Nat.mul_lt_mul_of_pos_left (by rw[qH];omega) w5;rw[<-jX,show B*B^(n+1)=B^(n+2) by rw[uG B (n+1),qY]] at h7;omega};{exact h4}
    (have hS:=s236 pre x post v n hxl hvl oM oM hnorm hle;have htopv:0<(v.getD (n+1) 0).toNat:=by omega);have htop:(x.getD (n+2) 0).toNat*B+(x.getD (n+1) 0).toNat<(v.getD (n+1) 0).toNat*B+B:=by have:=qV B hle;omega
    have hq0:((x.getD (n+2) 0).toNat*B+(x.getD (n+1) 0).toNat)/(v.getD (n+1) 0).toNat<=B+1:=by
     (have h4:(x.getD (n+2) 0).toNat*B+(x.getD (n+1) 0).toNat<(B+2)*(v.getD (n+1) 0).toNat:=by rw[gF,qY B (v.getD (n+1) 0).toNat];omega);have:=(zC2 htopv).2 h4;omega
    have hr0:((x.getD (n+2) 0).toNat*B+(x.getD (n+1) 0).toNat)%(v.getD (n+1) 0).toNat<B:=bC (uH _ htopv) hv1;have hE:=zKM (U:=val x) (V:=V) (P:=B^n) (ur:=val (x.take n)) (vr:=val (v.take n)) htopv hv2 hx2 hxt hvt hxtl hvtl hxv htop (B-((x.getD (n+2) 0).toNat*B+(x.getD (n+1) 0).toNat)%(v.getD (n+1) 0).toNat) _ _ (zZ _) (zR1 htopv hxt hvt hxtl hx2) hr0 hq0;generalize lG (v.getD (n+1) 0).toNat (v.getD n 0).toNat (x.getD n 0).toNat (((x.getD (n+2) 0).toNat*B+(x.getD (n+1) 0).toNat)/(v.getD (n+1) 0).toNat) (((x.getD (n+2) 0).toNat*B+(x.getD (n+1) 0).toNat)%(v.getD (n+1) 0).toNat)=q0 at *
    have hR:=s235 pre x post v (n+2) q0 hxl hvl oM oM hE.b (by rw[hvv];exact hE.hi);rw[hvv] at hR;have hdg:=zR5 hV0 hE;obtain⟨hdB,hinv⟩:=hstep hdg;generalize zE4 (val x) V q0=d at *
    (have hi1:((i+1:Nat):Int)-1=(i:Int):=by omega);cbv
    (try dsimp only [zF] at *)
    refine⟨zD om om,zD om om,u9 om om om,zVA om,?_⟩;refine y0 (fun _=>55) (.le (ps':=⟨[(9,.int .i64 (fun _=>(s:Int))),(10,.osl 55 1 (fun _=>0) (fun _=>p.length+1)),(11,nat v),(12,.osl 66 1 (fun _=>0) (fun _=>M)),(13,.int .i64 (fun _=>(i:Int))),(82,.osl 66 1 (fun _=>0) (fun _=>M)),(83,.int .i64 (fun _=>(i:Int))),(84,.osl 55 1 (fun _=>pre.length) (fun _=>n+2+1)),(85,nat v),(86,.osl 55 1 (fun _=>pre.length) (fun _=>n+3)),(87,nat v)],[(55,.arr 1 (fun _=>lm (pre++(x++post)))),(66,.arr 1 (fun _=>lm out))]⟩) ?_ ?_ rfl) rfl okA hS ⟨⟨rfl,rfl⟩,trivial⟩ rfl rfl rfl rfl rfl rfl rfl rfl ?_;{cbv;refine⟨lR,lR,lR,lR,zC om,lR,zC om,yC ?_ ?_,lR,yC ?_ ?_,lR,trivial⟩ <;> ((try dsimp only [zF] at *);(try simp only[zH]);omega)};{cbv;exact⟨zI (by rw[e0]),zI rfl,trivial⟩};cbv;refine y0 (fun _=>55) (.refl _) rfl okA hR ⟨⟨rfl,rfl⟩,trivial⟩ rfl rfl rfl rfl rfl rfl rfl rfl ?_;cbv;refine⟨y9 om om,j8 i (by simp) oM ?_⟩;cbv;refine⟨zD om om,(i,pre++(pad (val x-d*V) (n+2+1)++post),out.set i (UInt32.ofNat d)),hinv,Nat.lt_succ_self i,.le ?_ ?_ rfl⟩;{cbv;exact okA};{cbv;exact⟨zI rfl,zI (fD out (by simp) rfl hdB),trivial⟩}
   ·(have hk0:k=0:=by (try dsimp only [zF] at *);omega);subst hk0
    (have hlo:=hz.lo;have hlu:=hz.lu;have heq:=hz.eq;have hlt:=hz.lt;rw[wC,zLB,Nat.one_mul] at heq;rw[wC] at hlt;have hQ:A/V=val out:=Nat.div_eq_of_lt_le (by grind) (by grind);have hRm:A%V=val u:=by rw[<-heq,zXA];exact qU hlt);cbv
    refine kQ (.trans (.le (ps':=⟨[(9,.int .i64 (fun _=>(s:Int))),(12,.osl 66 1 (fun _=>0) (fun _=>M)),(92,.osl 55 1 (fun _=>0) (fun _=>p.length+1)),(93,.int .i64 (fun _=>(s:Int)))],[(55,.arr 1 (fun _=>lm u)),(66,.arr 1 (fun _=>lm out))]⟩) ?_ ?_ rfl) (.trans (.frz 55 rfl rfl ?_ ?_) (.frz 66 rfl rfl ?_ ?_))) rfl (by refine⟨zR ?_,lR,trivial⟩;grind [zH]) (s237 u s oM oM) rfl ?_;{cbv;exact okA};{cbv;exact⟨zI rfl,zI rfl,trivial⟩};{cbv;exact⟨z8 (by grind [zH]),trivial⟩};{exact trivial};{cbv;exact⟨z8 (by grind [zH]),trivial⟩};{exact trivial};cbv;refine yP rfl (by refine⟨zR ?_,trivial⟩;grind [zH]) (cL out oM) rfl ?_;cbv;refine jZ rfl ?_ rfl;refine⟨zR ?_,zR ?_,lR,trivial⟩;{grind};grind [Nat.mul_div_cancel]
theorem kE {n m:Nat}(h:n<=m):(zK n).length<=(zK m).length:=by rcases uQ (zK m).length (zK n).length with h1|h1;{have:=o9 h1;omega};omega
theorem s225 (a b:List UInt32)(ha:a.length<2^39)(hb:b.length<2^39):zE 285 [nat a,nat b] (nat (zK (Nat.gcd (val a) (val b)))):=by
 refine sF Tryz.f285 ?_;have ha':=xP (zX a) ha;have hb':=xP (zX b) hb;have hBB:B*B=18446744073709551616:=by decide
 generalize hg:Nat.gcd (val a) (val b)=g;cbv;refine cA (cL a oM) ?_;cbv;refine cA (cL b oM) ?_;cbv;refine z3 (σ:=Nat×Nat) (fun z=>⟨[(0,nat (zK z.1)),(1,nat (zK z.2))],[]⟩) (fun z=>(zK z.1).length<2^39/\(zK z.2).length<2^39/\Nat.gcd z.1 z.2=g) (fun z=>z.2) (val a,val b) ⟨ha',hb',hg⟩ (.le ?_ trivial rfl) ?_;{cbv;exact okA};intro z hz;obtain⟨h1,h2,h3⟩:=hz;generalize z.1=x at *
 generalize z.2=y at *
 cbv;refine zG (fun h4=>?_) (fun h4=>?_)
 ·(cbv;have hy:y≠0:=fun e=>by subst e;(try dsimp only [zF] at *);grind [lm,yZ]);refine cA (s226 (zK x) (zK y) h1 h2 (by grind [zO])) ?_
  cbv;have hm:=uH x (rE hy);refine⟨(y,x%y),⟨h2,xP (kE (zCZ hm)) h2,by grind [Nat.gcd_comm,Nat.gcd_rec]⟩,hm,.le ?_ trivial rfl⟩;cbv;exact⟨lR,zR (by grind [zO]),trivial⟩
 ·have hy2:y<B*B:=len2.1 (by (try dsimp only [zF] at *);grind [zH]);cbv;refine zG (fun h5=>?_) (fun h5=>?_);{have hy:y=0:=x8.1 (kR (by (try dsimp only [zF] at *);grind [zH]));subst hy;cbv;refine cA (s223 (zK x) oM) ?_;cbv;refine jZ rfl (zR ?_) rfl;rw[zO,<-h3,Nat.gcd_zero_right]}
  ·have hy:y≠0:=fun e=>h5 (by subst e;simp[lm,yZ]);have hm:=uH x (rE hy);cbv;refine cA (s226 (zK x) (zK y) h1 h2 (by grind [zO])) ?_;rw[zO,zO];cbv;refine cA (s231 (zK y) oM) ?_;rw[zO,if_pos hy2];cbv;refine cA (s231 (zK (x%y)) (xP (kE (zCZ hm)) oM)) ?_;rw[zO,if_pos oM];cbv;refine z3 (σ:=Nat×Nat) (fun z=>⟨[(11,.int .u64 (fun _=>(z.1:Int))),(13,.int .u64 (fun _=>(z.2:Int)))],[]⟩) (fun z=>z.1<B*B/\z.2<B*B/\Nat.gcd z.1 z.2=g) (fun z=>z.2) (y,x%y) ⟨hy2,by omega,by grind [Nat.gcd_comm,Nat.gcd_rec]⟩ (.le ?_ trivial rfl) ?_;{cbv;exact okA};clear hm hy h3 h4 h5 h1 h2 hy2;intro z hz;obtain⟨h1,h2,h3⟩:=hz;generalize z.1=x at *
   generalize z.2=y at *
   cbv;refine zG (fun h4=>?_) (fun h4=>?_);{have hy:0<y:=om;have hm:=uH x hy;cbv;refine zN 5 (by cbv) ?_;cbv;refine⟨uA om,(y,x%y),⟨h2,by omega,by grind [Nat.gcd_comm,Nat.gcd_rec]⟩,hm,.le ?_ trivial rfl⟩;cbv;exact⟨lR,zC uN,trivial⟩};{have hy:y=0:=om;subst hy;cbv;refine cA (s211 x h1) ?_;cbv;refine jZ rfl (zR ?_) rfl;grind}
end Go.Proofs.YtaeaffgjdcigoaaGreat
namespace Go.Proofs.YtaeaffgjdcigoaaGreat
structure R where
 neg:Bool
 num:List UInt32
 den:List UInt32
deriving DecidableEq
def sgn (b:Bool) (n:Nat):Int:=if b then -(n:Int) else n
theorem qE (b:Bool)(n:Nat):(sgn b n).natAbs=n:=by grind [sgn]
theorem zJQ (b:Bool):sgn b 0=0:=by cases b <;> rfl
theorem zIU {b:Bool}{n:Nat}:sgn b n<0↔(b=true/\n≠0):=by grind [sgn]
theorem zDW (z:Int):sgn (decide (z<0)) z.natAbs=z:=by grind [sgn]
theorem zHN (a b:Bool)(n m:Nat):sgn a n*sgn b m=sgn (a != b) (n*m):=by cases a <;> cases b <;> simp[sgn,Int.neg_mul,Int.mul_neg]
theorem zA2 (a:Bool)(n m:Nat):sgn a n*(m:Int)=sgn a (n*m):=by grind [sgn]
theorem zNT (a:Bool)(n:Nat):sgn (!a) n=- sgn a n:=by grind [sgn]
def R.n (x:R):Int:=sgn x.neg (val x.num)
def R.d (x:R):Nat:=if val x.den=0 then 1 else val x.den
def R.q (x:R):Rat:=mkRat x.n x.d
theorem R.d_ne (x:R):x.d≠0:=by grind [R.d]
def zJ (q:Rat):R:=⟨decide (q.num<0),zK q.num.natAbs,if q.den=1 then [] else zK q.den⟩
theorem zS4 (q:Rat):(zJ q).n=q.num:=by simp only[R.n,zJ,zO];exact zDW _
theorem zZR (q:Rat):(zJ q).d=q.den:=by have:=q.den_pos;unfold R.d zJ;by_cases h:q.den=1;{simp[h,val]};{simp only[h,if_false,zO];grind}
theorem z6 (q:Rat):(zJ q).q=q:=by grind [R.q,zS4,zZR,Rat.mkRat_self]
theorem u6:zJ 0=⟨false,[],[]⟩:=by simp[zJ,yZ]
theorem zN4 {neg:Bool}{n d:Nat}(hd:d≠0):(mkRat (sgn neg n) d).num=sgn neg (n/Nat.gcd n d):=by rw[Rat.num_mkRat,if_neg hd,qE,Nat.gcd_comm];grind [Int.natCast_dvd_natCast,Nat.gcd_dvd_left,sgn,Int.neg_ediv_of_dvd]
theorem zN5 {neg:Bool}{n d:Nat}(hd:d≠0):(mkRat (sgn neg n) d).den=d/Nat.gcd n d:=by rw[Rat.den_mkRat,if_neg hd,qE,Nat.gcd_comm]
theorem zAI {neg:Bool}{n d:Nat}(hd:d≠0):zJ (mkRat (sgn neg n) d)=⟨neg&&decide (n≠0),zK (n/Nat.gcd n d),if d/Nat.gcd n d=1 then [] else zK (d/Nat.gcd n d)⟩:=by
 rw[zJ,zN4 hd,zN5 hd,qE];congr 1;rw[Bool.eq_iff_iff];have hg:0<Nat.gcd n d:=Nat.gcd_pos_of_pos_right n (Nat.pos_of_ne_zero hd);have h1:n/Nat.gcd n d=0↔n=0:=by rw[Nat.div_eq_zero_iff_lt hg];grind [Nat.gcd_le_left]
 simp only[decide_eq_true_eq,Bool.and_eq_true,zIU,ne_eq,h1]
theorem zT4 (a b:R):a.q+b.q=mkRat (a.n*b.d+b.n*a.d) (a.d*b.d):=Rat.mkRat_add_mkRat _ _ a.d_ne b.d_ne
theorem zWW (a b:R):a.q*b.q=mkRat (a.n*b.n) (a.d*b.d):=Rat.mkRat_mul_mkRat _ _ _ _
theorem zT2 (a:R):(⟨!a.neg,a.num,a.den⟩:R).q=- a.q:=by simp only[R.q,R.n,R.d,zNT,Rat.neg_mkRat]
theorem oG {n:Int}{d:Nat}(hd:d≠0):0<=mkRat n d↔0<=n:=by rw[<-Rat.divInt_ofNat];exact Rat.divInt_nonneg_iff_of_pos_right (by omega)
theorem yAM (a b:R):a.q-b.q=mkRat (a.n*b.d-b.n*a.d) (a.d*b.d):=by rw[Rat.sub_eq_add_neg,<-zT2,zT4];simp only[R.n,R.d,zNT,Int.neg_mul,Int.sub_eq_add_neg]
theorem q_le (a b:R):a.q<=b.q↔a.n*b.d<=b.n*a.d:=by rw[Rat.le_iff_sub_nonneg,yAM,oG (Nat.mul_ne_zero b.d_ne a.d_ne)];omega
theorem q_lt (a b:R):a.q<b.q↔a.n*b.d<b.n*a.d:=by rw[<-Rat.not_le,q_le];omega
theorem zPI (a:R):a.q=0↔a.n=0:=Rat.mkRat_eq_zero a.d_ne
theorem zJY (a:R):0<=a.q↔0<=a.n:=oG a.d_ne
theorem zF2 (a:R):a.q<0↔a.n<0:=by grind [zJY]
theorem yAN (a:R):0<a.q↔0<a.n:=by grind [zJY,zPI]
def z4 (q:Rat):Int:=if q<0 then -1 else if 0<q then 1 else 0
def uD (a b:Rat):Int:=if a<b then -1 else if b<a then 1 else 0
def jL (z:Int):Int:=if z<0 then -1 else if 0<z then 1 else 0
def cmpZ (a b:Int):Int:=if a<b then -1 else if b<a then 1 else 0
theorem zSM (a:R):z4 a.q=jL a.n:=by simp only[z4,jL,zF2,yAN]
theorem zZU (a b:R):uD a.q b.q=cmpZ (a.n*b.d) (b.n*a.d):=by simp only[uD,cmpZ,q_lt]
structure Fits (k:Nat) (q:Rat):Prop where
 num:q.num.natAbs<B^k
 den:q.den<B^k
theorem Fits.mono {k m:Nat}{q:Rat}(h:Fits k q)(hm:k<=m):Fits m q :=
 ⟨Nat.lt_of_lt_of_le h.num (Nat.pow_le_pow_right w5 hm),Nat.lt_of_lt_of_le h.den (Nat.pow_le_pow_right w5 hm)⟩
theorem aZ {k:Nat}{n:Int}{d:Nat}(hn:n.natAbs<B^k)(hd:d<B^k)(h0:d≠0):Fits k (mkRat n d):=by have hs:n=sgn (decide (n<0)) n.natAbs:=(zDW n).symm;rw[hs];refine⟨?_,?_⟩;{rw[zN4 h0,qE];exact Nat.lt_of_le_of_lt (Nat.div_le_self _ _) hn};{rw[zN5 h0];exact Nat.lt_of_le_of_lt (Nat.div_le_self _ _) hd}
theorem zZG {k:Nat}{x:R}(h1:x.num.length<=k)(h2:x.den.length<=k)(hk:1<=k):Fits k x.q:=by refine aZ ?_ ?_ x.d_ne;{rw[R.n,qE];exact Nat.lt_of_lt_of_le (xZ _) (Nat.pow_le_pow_right w5 h1)};{unfold R.d;split;{exact Nat.lt_of_lt_of_le (show 1<B^1 by decide) (Nat.pow_le_pow_right w5 hk)};{exact Nat.lt_of_lt_of_le (xZ _) (Nat.pow_le_pow_right w5 h2)}}
theorem Fits.lnum {k:Nat}{q:Rat}(h:Fits k q):(zJ q).num.length<=k:=yF h.num
theorem Fits.lden {k:Nat}{q:Rat}(h:Fits k q):(zJ q).den.length<=k:=by unfold zJ;by_cases h1:q.den=1;{simp[h1]};{simp only[h1,if_false];exact yF h.den}
theorem x6 {a b k m:Nat}(ha:a<B^k)(hb:b<B^m):a*b<B^(k+m):=by rw[Nat.pow_add];exact Nat.mul_lt_mul'' ha hb
theorem y6 {k m:Nat}{a b:Rat}(ha:Fits k a)(hb:Fits m b):Fits (k+m) (a*b):=by rw[Rat.mul_def'];refine aZ ?_ (x6 ha.den hb.den) (Nat.mul_ne_zero a.den_nz b.den_nz);rw[Int.natAbs_mul];exact x6 ha.num hb.num
theorem qT {k m:Nat}{a b:Rat}(ha:Fits k a)(hb:Fits m b):Fits (k+m+1) (a+b):=by rw[Rat.add_def'];have h1:=x6 ha.num hb.den;have h2:=x6 hb.num ha.den;rw[Nat.add_comm m k] at h2;have h3:B^(k+m+1)=B^(k+m)*B:=Nat.pow_succ _ _;have hd:=x6 ha.den hb.den;have h5:B^(k+m)*2<=B^(k+m)*B:=Nat.mul_le_mul_left _ (by decide);refine aZ ?_ ?_ (Nat.mul_ne_zero a.den_nz b.den_nz);{grind [Int.natAbs_add_le,Int.natAbs_mul]};omega
theorem qD {k:Nat}{a:Rat}(ha:Fits k a):Fits k (-a):=⟨by rw[Rat.neg_num,Int.natAbs_neg];exact ha.num,by rw[Rat.neg_den];exact ha.den⟩
theorem uC {k m:Nat}{a b:Rat}(ha:Fits k a)(hb:Fits m b):Fits (k+m+1) (a-b):=by grind [Rat.sub_eq_add_neg,qT,qD]
theorem uK {k:Nat}(hk:1<=k):Fits k 0 :=
 ⟨by simp;exact Nat.pow_pos w5,by simp;exact Nat.lt_of_lt_of_le (show 1<B^1 by decide) (Nat.pow_le_pow_right w5 hk)⟩
theorem zEG {k:Nat}{z:Int}(h:z.natAbs<B^k)(hk:1<=k):Fits k (z:Rat) :=
 ⟨by simp_all,by simp;exact Nat.lt_of_lt_of_le (show 1<B^1 by decide) (Nat.pow_le_pow_right w5 hk)⟩
theorem cT {k:Nat}{a:Rat}(ha:Fits k a):Fits k a⁻¹:=by
 refine⟨?_,?_⟩
 ·(rw[Rat.num_inv,Int.natAbs_mul];have h1:a.num.sign.natAbs<=1:=by grind);have h2:=ha.den
  grind
 {rw[Rat.den_inv];split;{have:=ha.den;simp_all};{exact ha.num}}
def R.ok (x:R):Bool:=decide (x=zJ x.q)
theorem pO (q:Rat):(zJ q).ok=true:=by simp[R.ok,z6]
end Go.Proofs.YtaeaffgjdcigoaaGreat
namespace Go.Proofs.YtaeaffgjdcigoaaGreat
open Go
set_option maxRecDepth 100000
theorem x9 {nb:Bool}{objs:List (Nat×Obj')}{f:FuncId}{args args':List PV}{K:PV->Prop}{r:PV}(h2:gD les args args')(h3:zE f args' r)(h5:nmIn [] r=true)(h4:K r):CallS nb objs f args K:=⟨.inl ⟨args',r,nV h2,h3,h5,h4⟩⟩
theorem dA {nb:Bool}{objs:List (Nat×Obj')}{f:FuncId}{args args':List PV}{K:PV->Prop}{r:PV}(h3:zE f args' r)(h4:K r)(h2:gD les args args':=by exact okA)(h5:nmIn [] r=true:=by exact rfl):CallS nb objs f args K:=x9 h2 h3 h5 h4
theorem fS (a b:List UInt32):(zK (val a*val b)).length<=a.length+b.length:=yF (x6 (xZ a) (xZ b))
theorem zOJ (a b:List UInt32):(zK (val a+val b)).length<=a.length+b.length+1:=by refine yF ?_;have h1:=uI (xZ a) (dE w5 (Nat.le_add_right a.length b.length));have h2:=uI (xZ b) (dE w5 (Nat.le_add_left b.length a.length));have h3:B^(a.length+b.length)*2<=B^(a.length+b.length)*B:=wG _ (by decide);rw[uG];omega
theorem zDB (a b:List UInt32):(zK (val a-val b)).length<=a.length:=yF (xP (Nat.sub_le _ _) (xZ a))
structure Z where
 neg:Bool
 mag:List UInt32
def Z.v (x:Z):Int:=sgn x.neg (val x.mag)
def x7 (z:Int):Z:=⟨decide (z<0),zK z.natAbs⟩
theorem dF (z:Int):(x7 z).v=z:=by simp only[Z.v,x7,zO];exact zDW z
abbrev zv (x:Z):PV:=.agg [.bool (fun _=>x.neg),nat x.mag]
theorem zJ9 (neg:Bool)(n:Nat):x7 (sgn neg n)=⟨neg&&decide (n≠0),zK n⟩:=by simp only[x7,qE];congr 1;rw[bQ];simp only[decide_eq_true_eq,zIU,yT]
theorem zSL {b:Bool}{n:Nat}(h:¬sgn b n<0):sgn b n=(n:Int):=by cases b;{rfl};{simp only[sgn,if_true] at h ⊢;omega}
theorem s203 (neg:Bool)(m:List UInt32)(hm:m.length<2^40):zE 275 [.bool (fun _=>neg),nat m] (zv (x7 (sgn neg (val m)))):=by
 refine sF Tryz.f275 ?_;rw[zJ9];cbv;refine cA (s223 m hm) ?_;cbv;refine z7 (fun h=>?_) (fun h=>?_)
 ·subst h;cbv
  (refine rC ?_;cbv)
  refine⟨zV ?_,lR,trivial⟩;rw[bQ];simp only[decide_eq_true_eq,zH,yU];rw[<-@x8 (val m),<-zNH]
  (try dsimp only [zF] at *)
  omega
 ·subst h;cbv
  (refine rC ?_;cbv)
  exact okA
theorem s164 (x:Int)(h1:-9223372036854775808<=x)(h2:x<9223372036854775808):zE 228 [.int .i64 (fun _=>x)] (zv (x7 x)):=by
 refine sF Tryz.f228 ?_;have hBB:B*B=18446744073709551616:=by decide
 have e:zv (x7 x)=.agg [.bool (fun _=>decide (x<0)),nat (zK x.natAbs)]:=rfl;rw[e];cbv;refine zG (fun h=>?_) (fun h=>?_)
 ·(have e1:nx .u64 (0-nx .u64 x)=((x.natAbs:Nat):Int):=by grind [uM]);generalize hn:x.natAbs=n at *
  cbv;refine yP rfl (by exact⟨zC e1,trivial⟩) (s211 n oM) rfl ?_;cbv
  (refine rC ?_;cbv)
  exact⟨yN (decide_eq_true h),lR,trivial⟩
 ·(have e1:nx .u64 x=((x.natAbs:Nat):Int):=by grind [uM]);generalize hn:x.natAbs=n at *
  cbv;refine yP rfl (by exact⟨zC e1,trivial⟩) (s211 n oM) rfl ?_;cbv
  (refine rC ?_;cbv)
  exact⟨zM (decide_eq_false h),lR,trivial⟩
theorem s146 (x:Z)(hx:x.mag.length<2^40):zE 232 [zv x] (.int .i64 (fun _=>jL x.v)):=by
 refine sF Tryz.f232 ?_;obtain⟨neg,mag⟩:=x;have hv:Z.v ⟨neg,mag⟩=sgn neg (val mag):=rfl;rw[hv];have h0:((gC (val mag):Nat):Int)=0↔val mag=0:=by grind [n9]
 have hs:=s202 mag hx;generalize gC (val mag)=b at h0 hs;generalize hS:jL (sgn neg (val mag))=S at *
 cbv;refine cA hs ?_;cbv;refine zG (fun h=>?_) (fun h=>?_)
 ·cbv
  (refine rC ?_;cbv)
  refine zC ?_;rw[<-hS,h0.1 h,zJQ];rfl
 ·have hne:val mag≠0:=fun e=>h (h0.2 e);cbv;refine zP (fun h2=>?_) (fun h2=>?_)
  ·subst h2;cbv
   (refine rC ?_;cbv)
   refine zC ?_;rw[<-hS,show sgn true (val mag)=-(val mag:Int) from rfl];unfold jL;omega
  ·subst h2;cbv
   (refine rC ?_;cbv)
   refine zC ?_;rw[<-hS,show sgn false (val mag)=(val mag:Int) from rfl];unfold jL;omega
theorem s212 (x y:Z)(hx:x.mag.length<2^40)(hy:y.mag.length<2^40):zE 244 [zv x,zv y] (.int .i64 (fun _=>cmpZ x.v y.v)):=by
 refine sF Tryz.f244 ?_;have hsx:=s146 x hx;have hsy:=s146 y hy;have hxv:x.v=sgn x.neg (val x.mag):=rfl;have hyv:y.v=sgn y.neg (val y.mag):=rfl;have h1:jL x.v<jL y.v->cmpZ x.v y.v=-1:=by intro h;unfold jL at h;unfold cmpZ;split at h <;> split at h <;> (try split at h) <;> (try split at h) <;> first|(rw[if_pos oM])|omega
 have h2:jL y.v<jL x.v->cmpZ x.v y.v=1:=by intro h;unfold jL at h;unfold cmpZ;split at h <;> split at h <;> (try split at h) <;> (try split at h) <;> first|(rw[if_neg oM,if_pos oM])|omega
 have h3:jL x.v=jL y.v->jL x.v<0->cmpZ x.v y.v=qJ (val y.mag) (val x.mag):=by
  (intro h h';have a1:x.v<0:=by unfold jL at h';split at h' <;> (try split at h') <;> omega);have a2:y.v<0:=by rw[h] at h';unfold jL at h';split at h' <;> (try split at h') <;> omega
  rw[hxv,zIU] at a1;rw[hyv,zIU] at a2;rw[hxv,hyv,a1.1,a2.1];simp only[cmpZ,qJ,sgn,if_true];omega
 have h4:jL x.v=jL y.v->¬jL x.v<0->cmpZ x.v y.v=qJ (val x.mag) (val y.mag):=by
  (intro h h';have a1:¬x.v<0:=by unfold jL at h';split at h' <;> (try split at h') <;> omega);have a2:¬y.v<0:=by rw[h] at h';unfold jL at h';split at h' <;> (try split at h') <;> omega
  (have b1:x.v=(val x.mag:Int):=by rw[hxv] at a1 ⊢;exact zSL a1);have b2:y.v=(val y.mag:Int):=by rw[hyv] at a2 ⊢;exact zSL a2
  grind [cmpZ,qJ]
 generalize cmpZ x.v y.v=C at *
 generalize jL x.v=s at *
 generalize jL y.v=t at *
 cbv;refine zN 4 (by cbv) ?_;cbv;refine dA hsx ?_;cbv;refine dA hsy ?_;cbv;refine zG (fun h=>?_) (fun h=>?_)
 ·cbv
  (refine rC ?_;cbv)
  exact zC (h1 h).symm
 ·cbv;refine zG (fun h'=>?_) (fun h'=>?_)
  ·cbv
   (refine rC ?_;cbv)
   exact zC (h2 h').symm
  ·(have he:s=t:=by omega);cbv
   refine zG (fun h5=>?_) (fun h5=>?_)
   ·have h6:=h3 he h5;have h7:=s162 y.mag x.mag hy hx;rw[<-h6] at h7;cbv;refine cA h7 ?_;cbv
    (refine rC ?_;cbv)
    exact lR
   ·have h6:=h4 he h5;have h7:=s162 x.mag y.mag hx hy;rw[<-h6] at h7;cbv;refine cA h7 ?_;cbv
    (refine rC ?_;cbv)
    exact lR
theorem s192 (x y:Z)(hx:x.mag.length<2^38)(hy:y.mag.length<2^38):zE 287 [zv x,zv y] (zv (x7 (x.v+y.v))):=by
 refine sF Tryz.f287 ?_;obtain⟨n1,m1⟩:=x;obtain⟨n2,m2⟩:=y;have hv:Z.v ⟨n1,m1⟩+Z.v ⟨n2,m2⟩=sgn n1 (val m1)+sgn n2 (val m2):=rfl;have hl:=zOJ m1 m2;have hl1:=zDB m1 m2;have hl2:=zDB m2 m1;have hx':m1.length<2^38:=hx;have hy':m2.length<2^38:=hy;rw[hv];have c1:n1=n2->zE 275 [.bool (fun _=>n1),nat (zK (val m1+val m2))] (zv (x7 (sgn n1 (val m1)+sgn n2 (val m2)))):=by intro h;have:=s203 n1 (zK (val m1+val m2)) oM;rw[zO] at this;grind [sgn]
 have c2:n1≠n2->¬qJ (val m1) (val m2)<0->zE 275 [.bool (fun _=>n1),nat (zK (val m1-val m2))] (zv (x7 (sgn n1 (val m1)+sgn n2 (val m2)))):=by
  intro h h';have hge:val m2<=val m1:=by unfold qJ at h';omega
  (have:=s203 n1 (zK (val m1-val m2)) oM;rw[zO] at this;have e:sgn n1 (val m1-val m2)=sgn n1 (val m1)+sgn n2 (val m2):=by grind [sgn]);grind
 have c3:n1≠n2->qJ (val m1) (val m2)<0->zE 275 [.bool (fun _=>n2),nat (zK (val m2-val m1))] (zv (x7 (sgn n1 (val m1)+sgn n2 (val m2)))):=by
  intro h h';have hge:val m1<=val m2:=by unfold qJ at h';omega
  (have:=s203 n2 (zK (val m2-val m1)) oM;rw[zO] at this;have e:sgn n2 (val m2-val m1)=sgn n1 (val m1)+sgn n2 (val m2):=by grind [sgn]);simp_all
 have c0:=s162 m1 m2 oM oM;generalize qJ (val m1) (val m2)=cm at *
 generalize sgn n1 (val m1)+sgn n2 (val m2)=T at *
 cbv;refine zG (fun h=>?_) (fun h=>?_)
 ·have h':=c1 h;generalize x7 T=W at *
  cbv;refine zN 8 (by cbv) ?_;cbv;refine dA (s221 m1 m2 oM oM) ?_;cbv;refine dA h' ?_;cbv
  (refine rC ?_;cbv)
  exact okA
 ·have h2:=c2 h;have h3:=c3 h;generalize x7 T=W at *
  cbv;refine cA c0 ?_;cbv;refine zG (fun h4=>?_) (fun h4=>?_)
  ·cbv;refine cA (s222 m2 m1 oM oM) ?_;cbv;refine cA (h3 h4) ?_;cbv
   (refine rC ?_;cbv)
   exact okA
  ·cbv;refine cA (s222 m1 m2 oM oM) ?_;cbv;refine cA (h2 h4) ?_;cbv
   (refine rC ?_;cbv)
   exact okA
theorem s220 (x y:Z)(hx:x.mag.length<2^38)(hy:y.mag.length<2^38):zE 279 [zv x,zv y] (zv (x7 (x.v*y.v))):=by
 refine sF Tryz.f279 ?_;obtain⟨n1,m1⟩:=x;obtain⟨n2,m2⟩:=y;have hl:=fS m1 m2;have hx':m1.length<2^38:=hx;have hy':m2.length<2^38:=hy;have hv:Z.v ⟨n1,m1⟩*Z.v ⟨n2,m2⟩=sgn (n1 != n2) (val m1*val m2):=zHN _ _ _ _;rw[hv];have c1:=s203 (n1 != n2) (zK (val m1*val m2)) oM;rw[zO] at c1;have hb:(n1 != n2)=!decide (n1=n2):=by grind
 generalize x7 (sgn (n1 != n2) (val m1*val m2))=W at *
 generalize hnb:(n1 != n2)=nb at *
 cbv;refine zN 11 (by cbv) ?_;cbv;refine dA (s194 m1 m2 oM oM) ?_;cbv;refine x9 (by exact⟨vY hb,lR,trivial⟩) c1 rfl ?_;cbv
 (refine rC ?_;cbv)
 exact okA
end Go.Proofs.YtaeaffgjdcigoaaGreat
