/- A part of the proof: RtB, RtC, RuA, RuB, RuC, RuD. -/
import Derived.Test.YtaeaffgjdcigoaaGreatC29
import Derived.Test.YtaeaffgjdcigoaaGreatC26
import Derived.Test.YtaeaffgjdcigoaaGreatC27
import Derived.Test.YtaeaffgjdcigoaaGreatC28
set_option linter.all false
namespace Go.Proofs.YtaeaffgjdcigoaaGreat
open Go
set_option maxRecDepth 100000
set_option maxHeartbeats 4000000
theorem tL (v:Int):Cn (F.var v).ts:=Cn.nil.cons (by simp) (by show (1:Rat)≠0;decide)
theorem zE9 {f g:F}(hf:Cn f.ts)(hg:Cn g.ts):Cn (f.sub g).ts:=hf.mrg hg
theorem rF {f:F}{q:Rat}(hf:Cn f.ts):Cn (f.scale q).ts:=Cn.nil.mrg hf
theorem zYL (s:Scp)(r:Row)(hs:s.sz (2^20))(hc:s.q.can)(hn1:1<=s.q.g.n)(hn2:s.q.g.n<=256)(hul:s.q.g.us.length<=1024)(hpl:∀ a,a∈s.q.g.us->a.ts.length<=2000):zE 249 [sv s,rwv r] (.tup [fv ((s.fUn r).getD F.zero),.bool (fun _=>(s.fUn r).isSome)]):=by
 refine sF Tryz.f249 ?_;have hno:¬(0<=r.i/\r.i<s.q.g.us.length)->s.fUn r=none:=fun h=>if_neg h;have hyes:∀ p,0<=r.i->r.i<s.q.g.us.length->s.q.g.us[r.i.toNat]?=some p->s.fUn r=unF s r p.f (F.var (s.q.g.n+r.i)) (s.lem r.lo r.i false) (s.lem r.hi r.i true):=fun p h1 h2 h3=>by unfold Scp.fUn;rw[if_pos ⟨h1,h2⟩,h3]
 obtain⟨o,ho⟩:∃ o,o=s.fUn r:=⟨_,rfl⟩;rw[<-ho] at hno hyes ⊢;obtain⟨W,hW⟩:∃ W,W=fA (o.getD F.zero):=⟨_,rfl⟩;obtain⟨b,hb⟩:∃ b,b=o.isSome:=⟨_,rfl⟩;rw[show fv (o.getD F.zero)=av W by rw[hW],<-hb];have fin2:∀ f,o=some f->W=fA f/\b=true:=fun f h=>by rw[h] at hW hb;exact⟨hW,hb⟩
 have fin1:o=none->W=⟨[],R0⟩/\b=false:=fun h=>by rw[h] at hW hb;exact⟨hW.trans uS,hb⟩
 clear hW hb ho;obtain⟨wt,w1,w2,w3⟩:=W;have fin3:o=none->wt=[]/\w1=false/\w2=[]/\w3=[]/\b=false:=fun h=>by obtain⟨h1,h2⟩:=fin1 h;simp only[A.mk.injEq,R.mk.injEq] at h1;exact⟨h1.1,h1.2.1,h1.2.2.1,h1.2.2.2,h2⟩
 clear fin1;by_cases hin:0<=r.i/\r.i<s.q.g.us.length
 rotate_left
 ·(have hnn:=hno hin;have hin':r.i<0\/(0<=r.i/\(s.q.g.us.length:Int)<=r.i):=by omega);obtain⟨⟨⟨gn,us,os⟩,⟨lo,hi,rows⟩,⟨ts,c1,c2,c3⟩⟩,path,lems⟩:=s
  obtain⟨k,i,rlo,rhi⟩:=r;simp only at hin';clear hno hyes fin2 hin;obtain⟨g0,g1,g2,g3,g4⟩:=fin3 hnn;subst g0 g1 g2 g3 g4;cbv;refine zQ (fun e1=>?_) (fun e1=>?_)
  ·cbv
   (refine rC ?_;cbv)
   exact okA
  ·cbv;refine w7 (by dsimp only at e1 ⊢;rw[zA];(try dsimp only [zF] at *);omega) ?_;cbv
   (refine rC ?_;cbv)
   exact okA
 obtain⟨hi0,hi1⟩:=hin;obtain⟨p,hp⟩:∃ p,s.q.g.us[r.i.toNat]?=some p:=zT oM;have ho:=hyes p hi0 hi1 hp;clear hno hyes;have hpm:=yA hp;have hps:=hs.q.g.us.sz p hpm;obtain⟨hpA,hpc⟩:=hc.us p hpm;have fP:p.f.fl (2^20) 2000:=hps.fl (by decide) (hpl p hpm);have cv:=zFA (s.q.g.n+r.i);have cl:=zN2 s r.lo r.i false (hs.lems.mono (by decide));have cu:=zN2 s r.hi r.i true (hs.lems.mono (by decide));have fl:=zBX hs.lems (by decide) r.lo r.i false;have fu:=zBX hs.lems (by decide) r.hi r.i true;have cd1:=eU s 1 r.i (hs.path.mono (by decide));have cd2:=eU s 2 r.i (hs.path.mono (by decide));unfold unF onB offB at ho;generalize s.lem r.lo r.i false=l at *
 generalize s.lem r.hi r.i true=u at *
 generalize s.dcd 1 r.i=dv1 at *
 generalize s.dcd 2 r.i=dv2 at *
 have fV:=gL (s.q.g.n+r.i);have cV:=tL (s.q.g.n+r.i);have co:=s32 (-1) (by decide) (by decide);have csl:=s35 (zJ (l.getD 0)) (by have:=(zU fl).n;omega);have csu:=s35 (zJ (u.getD 0)) (by have:=(zU fu).n;omega);rw[z6] at csl csu;have d6:=zK7 cV hpc fV fP (by decide) (by decide) (by decide) (by decide);have d8:=zK7 hpc cV fP fV (by decide) (by decide) (by decide) (by decide);have d9:=dX (q:=((-1:Int):Rat)) fP (wZ) (by decide) (by decide) (m:=1) (by decide);have d10:=dX (q:=((-1:Int):Rat)) fV (wZ) (by decide) (by decide) (m:=1) (by decide);have nL:=zBR (zJ (l.getD 0));have nU:=zBR (zJ (u.getD 0));have d11:=zK7 hpc (Cn.nil:Cn (F.num (l.getD 0)).ts) fP (kW fl) (by decide) (by decide) (by decide) (by decide);have d12:=zK7 (Cn.nil:Cn (F.num (u.getD 0)).ts) hpc (kW fu) fP (by decide) (by decide) (by decide) (by decide);have d13a:=dX ((fP.sub (kW fl))) fu (by decide) (by decide) (by decide);have d13d:=s93 (zJ (u.getD 0)) (zJ (l.getD 0)) ((zU fu).mono (by decide)) ((zU fl).mono (by decide));rw[z6,z6] at d13d;have d13b:=dX fV (uC fu fl) (by decide) (by decide) (by decide);have d13:=zK7 (rF (zE9 hpc (Cn.nil:Cn (F.num (l.getD 0)).ts))) (rF (q:=u.getD 0-l.getD 0) cV) ((fP.sub (kW fl)).scale fu) (fV.scale (uC fu fl)) (by decide) (by decide) (by decide) (by decide);rw[show (((-1:Int):Rat))=(-1:Rat) by rfl] at d9 d10 co;have e7:p.f.add F.zero=p.f:=add_zero hpc;rw[e7] at ho;have cv':fv (F.var (s.q.g.n+r.i))=av (fA (F.var (s.q.g.n+r.i))):=rfl;generalize F.var (s.q.g.n+r.i)=v at *
 rw[cv'] at cv;clear cv';generalize l.isSome=low at *
 generalize u.isSome=top at *
 generalize l.getD 0=lq at *
 generalize u.getD 0=uq at *
 obtain⟨V1,hV1⟩:∃ X,fA v=X:=⟨_,rfl⟩;obtain⟨L,hL⟩:∃ X,zJ lq=X:=⟨_,rfl⟩;obtain⟨U,hU⟩:∃ X,zJ uq=X:=⟨_,rfl⟩;obtain⟨M1,hM1⟩:∃ X,zJ (-1:Rat)=X:=⟨_,rfl⟩;obtain⟨X6,hX6⟩:∃ X,fA (v.sub p.f)=X:=⟨_,rfl⟩;obtain⟨X8,hX8⟩:∃ X,fA (p.f.sub v)=X:=⟨_,rfl⟩;obtain⟨X9,hX9⟩:∃ X,fA (p.f.scale (-1))=X:=⟨_,rfl⟩;obtain⟨X10,hX10⟩:∃ X,fA (v.scale (-1))=X:=⟨_,rfl⟩;obtain⟨X11,hX11⟩:∃ X,fA (p.f.sub (F.num lq))=X:=⟨_,rfl⟩;obtain⟨X12,hX12⟩:∃ X,fA ((F.num uq).sub p.f)=X:=⟨_,rfl⟩;obtain⟨Xa,hXa⟩:∃ X,fA ((p.f.sub (F.num lq)).scale uq)=X:=⟨_,rfl⟩;obtain⟨Xb,hXb⟩:∃ X,fA (v.scale (uq-lq))=X:=⟨_,rfl⟩;obtain⟨X13,hX13⟩:∃ X,fA (((p.f.sub (F.num lq)).scale uq).sub (v.scale (uq-lq)))=X:=⟨_,rfl⟩;obtain⟨Dq,hDq⟩:∃ X,zJ (uq-lq)=X:=⟨_,rfl⟩;have d6':zE 164 [av V1,av p] (av X6):=by subst hV1 hL hU hM1 hX6 hX8 hX9 hX10 hX11 hX12 hXa hXb hX13 hDq;dsimp only [fv] at d6;rw[hpA] at d6;exact d6
 have d8':zE 164 [av p,av V1] (av X8):=by subst hV1 hL hU hM1 hX6 hX8 hX9 hX10 hX11 hX12 hXa hXb hX13 hDq;dsimp only [fv] at d8;rw[hpA] at d8;exact d8
 have d9':zE 100 [av p,rv M1] (av X9):=by subst hV1 hL hU hM1 hX6 hX8 hX9 hX10 hX11 hX12 hXa hXb hX13 hDq;dsimp only [fv] at d9;rw[hpA] at d9;exact d9
 have d10':zE 100 [av V1,rv M1] (av X10):=by subst hV1 hL hU hM1 hX6 hX8 hX9 hX10 hX11 hX12 hXa hXb hX13 hDq;exact d10
 have d11':zE 164 [av p,av ⟨[],L⟩] (av X11):=by subst hV1 hL hU hM1 hX6 hX8 hX9 hX10 hX11 hX12 hXa hXb hX13 hDq;dsimp only [fv] at d11;rw[hpA] at d11;exact d11
 have d12':zE 164 [av ⟨[],U⟩,av p] (av X12):=by subst hV1 hL hU hM1 hX6 hX8 hX9 hX10 hX11 hX12 hXa hXb hX13 hDq;dsimp only [fv] at d12;rw[hpA] at d12;exact d12
 have d13a':zE 100 [av X11,rv U] (av Xa):=by subst hV1 hL hU hM1 hX6 hX8 hX9 hX10 hX11 hX12 hXa hXb hX13 hDq;exact d13a
 have d13d':zE 85 [rv U,rv L] (rv Dq):=by subst hV1 hL hU hM1 hX6 hX8 hX9 hX10 hX11 hX12 hXa hXb hX13 hDq;exact d13d
 have d13b':zE 100 [av V1,rv Dq] (av Xb):=by subst hV1 hL hU hM1 hX6 hX8 hX9 hX10 hX11 hX12 hXa hXb hX13 hDq;exact d13b
 have d13':zE 164 [av Xa,av Xb] (av X13):=by subst hV1 hL hU hM1 hX6 hX8 hX9 hX10 hX11 hX12 hXa hXb hX13 hDq;exact d13
 rw[hV1] at cv;rw[hL] at cl csl nL;rw[hU] at cu csu nU;rw[hM1] at co;clear d6 d8 d9 d10 d11 d12 d13a d13d d13b d13 hs hc hpl fP fV fl fu hps;obtain⟨⟨⟨gn,us,os⟩,⟨lo,hi,rows⟩,⟨ts,c1,c2,c3⟩⟩,path,lems⟩:=s;obtain⟨k,i,rlo,rhi⟩:=r;simp only at hn1 hn2 hul hi0 hi1 hp ho;obtain⟨ip,hip⟩:∃ j:Nat,i=(j:Int):=⟨i.toNat,by omega⟩;subst hip;rw[mW] at hp;generalize z4 lq=sl at *
 generalize z4 uq=su at *
 cbv;refine z9 (by dsimp only;omega) ?_;cbv;refine yB (by dsimp only;rw[zA];omega) ?_;cbv;refine vC 15 [(14,7)] (by cbv) (by cbv) (by cbv) ?_;cbv;refine⟨zD om om,?_⟩;cbv;refine dA cv ?_;cbv;refine yX hp gK bK ?_;cbv;refine cA cl ?_;cbv;refine cA cu ?_;cbv;refine cA co ?_;cbv;obtain⟨on,hon⟩:∃ on:Bool,(decide (rhi=0)&&((decide (rlo=0)&&dv1) || (low&&decide (0<=sl))))=on:=⟨_,rfl⟩;obtain⟨off,hoff⟩:∃ off:Bool,(decide (rlo=0)&&((decide (rhi=0)&&dv2) || (top&&decide (su<=0))))=off:=⟨_,rfl⟩;refine zJX (σ:=Unit) (fun _=>⟨[(2,.ptr 2 0),(3,.ptr 3 0),(4,.ptr 4 0),(7,.ptr 7 0),(8,.ptr 8 0),(9,.ptr 9 0),(10,.bool (fun _=>low)),(11,.ptr 11 0),(12,.bool (fun _=>top)),(13,.ptr 13 0),(14,.bool (fun _=>on))],[(2,.box [.int .i64 (fun _=>gn),alv us,alv os,rlv lo,rlv hi,alv rows,tsv ts,.bool (fun _=>c1),nat c2,nat c3,dlv path,llv lems]),(3,.box [.int .i64 (fun _=>k),.int .i64 (fun _=>(ip:Int)),.int .i64 (fun _=>rlo),.int .i64 (fun _=>rhi)]),(4,.box [.nil,.ff,.nil,.nil]),(7,.box [tsv V1.ts,.bool (fun _=>V1.c.neg),nat V1.c.num,nat V1.c.den]),(8,.box [tsv p.ts,.bool (fun _=>p.c.neg),nat p.c.num,nat p.c.den]),(9,.box [.bool (fun _=>L.neg),nat L.num,nat L.den]),(11,.box [.bool (fun _=>U.neg),nat U.num,nat U.den]),(13,.box [.bool (fun _=>M1.neg),nat M1.num,nat M1.den])]⟩) (fun _=>True) ?_ (fun _ _=>?_)
 ·skip
  cbv;refine zQ (fun e1=>?_) (fun e1=>?_)
  ·(try dsimp only at e1)
   cbv;refine zQ (fun e2=>?_) (fun e2=>?_)
   ·(try dsimp only at e2)
    cbv;refine cA cd1 ?_;cbv;refine z7 (fun e3=>?_) (fun e3=>?_);{cbv;exact⟨(),trivial,.le (by cbv;repeat' first|exact trivial|exact lR|exact zV (by rw[<-hon];simp[e1,e2,e3])|exact zM (by rw[<-hon];simp[e1,e2,e3])|exact yN (by rw[<-hon];simp[e1,e2,e3])|apply And.intro) okZ rfl⟩};{cbv;refine z7 (fun e4=>?_) (fun e4=>?_);{cbv;refine cA csl ?_;cbv;exact⟨(),trivial,.le (by cbv;repeat' first|exact trivial|exact lR|exact zV (by rw[<-hon];simp[e1,e2,e3,e4])|exact zM (by rw[<-hon];simp[e1,e2,e3,e4])|exact yN (by rw[<-hon];simp[e1,e2,e3,e4])|apply And.intro) okZ rfl⟩};{cbv;exact⟨(),trivial,.le (by cbv;repeat' first|exact trivial|exact lR|exact zV (by rw[<-hon];simp[e1,e2,e3,e4])|exact zM (by rw[<-hon];simp[e1,e2,e3,e4])|exact yN (by rw[<-hon];simp[e1,e2,e3,e4])|apply And.intro) okZ rfl⟩}}
   ·(try dsimp only at e2)
    cbv;refine z7 (fun e4=>?_) (fun e4=>?_);{cbv;refine cA csl ?_;cbv;exact⟨(),trivial,.le (by cbv;repeat' first|exact trivial|exact lR|exact zV (by rw[<-hon];simp[e1,e2,e4])|exact zM (by rw[<-hon];simp[e1,e2,e4])|exact yN (by rw[<-hon];simp[e1,e2,e4])|apply And.intro) okZ rfl⟩};{cbv;exact⟨(),trivial,.le (by cbv;repeat' first|exact trivial|exact lR|exact zV (by rw[<-hon];simp[e1,e2,e4])|exact zM (by rw[<-hon];simp[e1,e2,e4])|exact yN (by rw[<-hon];simp[e1,e2,e4])|apply And.intro) okZ rfl⟩}
  {cbv;exact⟨(),trivial,.le (by cbv;repeat' first|exact trivial|exact lR|exact zV (by rw[<-hon];simp[e1])|exact zM (by rw[<-hon];simp[e1])|exact yN (by rw[<-hon];simp[e1])|apply And.intro) okZ rfl⟩}
 cbv;refine zJX (σ:=Unit) (fun _=>⟨[(2,.ptr 2 0),(3,.ptr 3 0),(4,.ptr 4 0),(7,.ptr 7 0),(8,.ptr 8 0),(9,.ptr 9 0),(10,.bool (fun _=>low)),(11,.ptr 11 0),(12,.bool (fun _=>top)),(13,.ptr 13 0),(14,.bool (fun _=>on)),(15,.bool (fun _=>off))],[(2,.box [.int .i64 (fun _=>gn),alv us,alv os,rlv lo,rlv hi,alv rows,tsv ts,.bool (fun _=>c1),nat c2,nat c3,dlv path,llv lems]),(3,.box [.int .i64 (fun _=>k),.int .i64 (fun _=>(ip:Int)),.int .i64 (fun _=>rlo),.int .i64 (fun _=>rhi)]),(4,.box [.nil,.ff,.nil,.nil]),(7,.box [tsv V1.ts,.bool (fun _=>V1.c.neg),nat V1.c.num,nat V1.c.den]),(8,.box [tsv p.ts,.bool (fun _=>p.c.neg),nat p.c.num,nat p.c.den]),(9,.box [.bool (fun _=>L.neg),nat L.num,nat L.den]),(11,.box [.bool (fun _=>U.neg),nat U.num,nat U.den]),(13,.box [.bool (fun _=>M1.neg),nat M1.num,nat M1.den])]⟩) (fun _=>True) ?_ (fun _ _=>?_)
 ·skip
  cbv;refine zQ (fun e1=>?_) (fun e1=>?_)
  ·(try dsimp only at e1)
   cbv;refine zQ (fun e2=>?_) (fun e2=>?_)
   ·(try dsimp only at e2)
    cbv;refine cA cd2 ?_;cbv;refine z7 (fun e3=>?_) (fun e3=>?_);{cbv;exact⟨(),trivial,.le (by cbv;repeat' first|exact trivial|exact lR|exact zV (by rw[<-hoff];simp[e1,e2,e3])|exact zM (by rw[<-hoff];simp[e1,e2,e3])|exact yN (by rw[<-hoff];simp[e1,e2,e3])|apply And.intro) okZ rfl⟩};{cbv;refine z7 (fun e4=>?_) (fun e4=>?_);{cbv;refine cA csu ?_;cbv;exact⟨(),trivial,.le (by cbv;repeat' first|exact trivial|exact lR|exact zV (by rw[<-hoff];simp[e1,e2,e3,e4])|exact zM (by rw[<-hoff];simp[e1,e2,e3,e4])|exact yN (by rw[<-hoff];simp[e1,e2,e3,e4])|apply And.intro) okZ rfl⟩};{cbv;exact⟨(),trivial,.le (by cbv;repeat' first|exact trivial|exact lR|exact zV (by rw[<-hoff];simp[e1,e2,e3,e4])|exact zM (by rw[<-hoff];simp[e1,e2,e3,e4])|exact yN (by rw[<-hoff];simp[e1,e2,e3,e4])|apply And.intro) okZ rfl⟩}}
   ·(try dsimp only at e2)
    cbv;refine z7 (fun e4=>?_) (fun e4=>?_);{cbv;refine cA csu ?_;cbv;exact⟨(),trivial,.le (by cbv;repeat' first|exact trivial|exact lR|exact zV (by rw[<-hoff];simp[e1,e2,e4])|exact zM (by rw[<-hoff];simp[e1,e2,e4])|exact yN (by rw[<-hoff];simp[e1,e2,e4])|apply And.intro) okZ rfl⟩};{cbv;exact⟨(),trivial,.le (by cbv;repeat' first|exact trivial|exact lR|exact zV (by rw[<-hoff];simp[e1,e2,e4])|exact zM (by rw[<-hoff];simp[e1,e2,e4])|exact yN (by rw[<-hoff];simp[e1,e2,e4])|apply And.intro) okZ rfl⟩}
  {cbv;exact⟨(),trivial,.le (by cbv;repeat' first|exact trivial|exact lR|exact zV (by rw[<-hoff];simp[e1])|exact zM (by rw[<-hoff];simp[e1])|exact yN (by rw[<-hoff];simp[e1])|apply And.intro) okZ rfl⟩}
 cbv;have hk:k=5\/k=6\/k=7\/k=8\/k=9\/k=10\/k=11\/k=12\/k=13\/(k<=4\/14<=k):=by omega
 simp only[hon,hoff,Row.plain] at ho;clear cd1 cd2 cl cu co cv hon hoff;rcases hk with rfl|rfl|rfl|rfl|rfl|rfl|rfl|rfl|rfl|hk
 ·as_aux_lemma =>
   rw[if_pos rfl] at ho;have T:=fun (h:(decide (rlo=0)&&decide (rhi=0))=true)=>fin2 (v) (by rw[ho];exact if_pos h);have N:=fun (h:¬((decide (rlo=0)&&decide (rhi=0))=true))=>fin3 (by rw[ho];exact if_neg h);rw[hV1] at T;clear ho fin2 fin3;refine w7 (by simp) ?_;cbv;refine vC 10 [(9,16)] (by cbv) (by cbv) (by cbv) ?_;cbv;refine zQ (fun e1=>?_) (fun e1=>?_)
   ·cbv;refine zP (fun e9=>?_) (fun e9=>?_)
    ·cbv;obtain⟨g1,g2⟩:=T (by simp_all);cases g1;subst g2
     (refine rC ?_;cbv)
     exact okA
    ·cbv;obtain⟨g0,g1,g2,g3,g4⟩:=N (by simp_all);subst g0 g1 g2 g3 g4
     (refine rC ?_;cbv)
     exact okA
   ·cbv;obtain⟨g0,g1,g2,g3,g4⟩:=N (by simp_all);subst g0 g1 g2 g3 g4
    (refine rC ?_;cbv)
    exact okA
 ·as_aux_lemma =>
   rw[if_neg (by decide),if_pos rfl] at ho;have T:=fun (h:(decide (rlo=0)&&decide (rhi=0))=true)=>fin2 (v.sub p.f) (by rw[ho];exact if_pos h);have N:=fun (h:¬((decide (rlo=0)&&decide (rhi=0))=true))=>fin3 (by rw[ho];exact if_neg h);rw[hX6] at T;clear ho fin2 fin3;refine yB (by simp) ?_;cbv;refine w7 (by simp) ?_;cbv;refine vC 12 [(11,16)] (by cbv) (by cbv) (by cbv) ?_;cbv;refine dA d6' ?_;cbv;refine zQ (fun e1=>?_) (fun e1=>?_)
   ·cbv;refine zP (fun e9=>?_) (fun e9=>?_)
    ·cbv;obtain⟨g1,g2⟩:=T (by simp_all);cases g1;subst g2
     (refine rC ?_;cbv)
     exact okA
    ·cbv;obtain⟨g0,g1,g2,g3,g4⟩:=N (by simp_all);subst g0 g1 g2 g3 g4
     (refine rC ?_;cbv)
     exact okA
   ·cbv;obtain⟨g0,g1,g2,g3,g4⟩:=N (by simp_all);subst g0 g1 g2 g3 g4
    (refine rC ?_;cbv)
    exact okA
 ·as_aux_lemma =>
   rw[if_neg (by decide),if_neg (by decide),if_pos rfl] at ho;have T:=fun (h:on=true)=>fin2 (p.f) (by rw[ho];exact if_pos h);have N:=fun (h:¬(on=true))=>fin3 (by rw[ho];exact if_neg h);rw[hpA] at T;clear ho fin2 fin3;refine yB (by simp) ?_;cbv;refine yB (by simp) ?_;cbv;refine w7 (by simp) ?_;cbv;refine zP (fun e9=>?_) (fun e9=>?_)
   ·cbv;obtain⟨g1,g2⟩:=T (by simp_all);cases g1;subst g2
    (refine rC ?_;cbv)
    exact okA
   ·cbv;obtain⟨g0,g1,g2,g3,g4⟩:=N (by simp_all);subst g0 g1 g2 g3 g4
    (refine rC ?_;cbv)
    exact okA
 ·as_aux_lemma =>
   rw[if_neg (by decide),if_neg (by decide),if_neg (by decide),if_pos rfl] at ho;have T:=fun (h:on=true)=>fin2 (p.f.sub v) (by rw[ho];exact if_pos h);have N:=fun (h:¬(on=true))=>fin3 (by rw[ho];exact if_neg h);rw[hX8] at T;clear ho fin2 fin3;refine yB (by simp) ?_;cbv;refine yB (by simp) ?_;cbv;refine yB (by simp) ?_;cbv;refine w7 (by simp) ?_;cbv;refine cA d8' ?_;cbv;refine zP (fun e9=>?_) (fun e9=>?_)
   ·cbv;obtain⟨g1,g2⟩:=T (by simp_all);cases g1;subst g2
    (refine rC ?_;cbv)
    exact okA
   ·cbv;obtain⟨g0,g1,g2,g3,g4⟩:=N (by simp_all);subst g0 g1 g2 g3 g4
    (refine rC ?_;cbv)
    exact okA
 ·as_aux_lemma =>
   rw[if_neg (by decide),if_neg (by decide),if_neg (by decide),if_neg (by decide),if_pos rfl] at ho;have T:=fun (h:off=true)=>fin2 (p.f.scale (-1)) (by rw[ho];exact if_pos h);have N:=fun (h:¬(off=true))=>fin3 (by rw[ho];exact if_neg h);rw[hX9] at T;clear ho fin2 fin3;refine yB (by simp) ?_;cbv;refine yB (by simp) ?_;cbv;refine yB (by simp) ?_;cbv;refine yB (by simp) ?_;cbv;refine w7 (by simp) ?_;cbv;refine cA d9' ?_;cbv;refine zP (fun e9=>?_) (fun e9=>?_)
   ·cbv;obtain⟨g1,g2⟩:=T (by simp_all);cases g1;subst g2
    (refine rC ?_;cbv)
    exact okA
   ·cbv;obtain⟨g0,g1,g2,g3,g4⟩:=N (by simp_all);subst g0 g1 g2 g3 g4
    (refine rC ?_;cbv)
    exact okA
 ·as_aux_lemma =>
   rw[if_neg (by decide),if_neg (by decide),if_neg (by decide),if_neg (by decide),if_neg (by decide),if_pos rfl] at ho;have T:=fun (h:off=true)=>fin2 (v.scale (-1)) (by rw[ho];exact if_pos h);have N:=fun (h:¬(off=true))=>fin3 (by rw[ho];exact if_neg h);rw[hX10] at T;clear ho fin2 fin3;refine yB (by simp) ?_;cbv;refine yB (by simp) ?_;cbv;refine yB (by simp) ?_;cbv;refine yB (by simp) ?_;cbv;refine yB (by simp) ?_;cbv;refine w7 (by simp) ?_;cbv;refine cA d10' ?_;cbv;refine zP (fun e9=>?_) (fun e9=>?_)
   ·cbv;obtain⟨g1,g2⟩:=T (by simp_all);cases g1;subst g2
    (refine rC ?_;cbv)
    exact okA
   ·cbv;obtain⟨g0,g1,g2,g3,g4⟩:=N (by simp_all);subst g0 g1 g2 g3 g4
    (refine rC ?_;cbv)
    exact okA
 ·as_aux_lemma =>
   rw[if_neg (by decide),if_neg (by decide),if_neg (by decide),if_neg (by decide),if_neg (by decide),if_neg (by decide),if_pos rfl] at ho;have T:=fun (h:low=true/\rhi=0)=>fin2 (p.f.sub (F.num lq)) (by rw[ho];exact if_pos h);have N:=fun (h:¬(low=true/\rhi=0))=>fin3 (by rw[ho];exact if_neg h);rw[hX11] at T;clear ho fin2 fin3;refine yB (by simp) ?_;cbv;refine yB (by simp) ?_;cbv;refine yB (by simp) ?_;cbv;refine yB (by simp) ?_;cbv;refine yB (by simp) ?_;cbv;refine yB (by simp) ?_;cbv;refine w7 (by simp) ?_;cbv;refine vC 11 [(10,16)] (by cbv) (by cbv) (by cbv) ?_;cbv;refine dA nL ?_;cbv;refine dA d11' ?_;cbv;refine z7 (fun e1=>?_) (fun e1=>?_)
   ·cbv;refine zP (fun e9=>?_) (fun e9=>?_)
    ·cbv;obtain⟨g1,g2⟩:=T (by simp_all);cases g1;subst g2
     (refine rC ?_;cbv)
     exact okA
    ·cbv;obtain⟨g0,g1,g2,g3,g4⟩:=N (by simp_all);subst g0 g1 g2 g3 g4
     (refine rC ?_;cbv)
     exact okA
   ·cbv;obtain⟨g0,g1,g2,g3,g4⟩:=N (by simp_all);subst g0 g1 g2 g3 g4
    (refine rC ?_;cbv)
    exact okA
 ·as_aux_lemma =>
   rw[if_neg (by decide),if_neg (by decide),if_neg (by decide),if_neg (by decide),if_neg (by decide),if_neg (by decide),if_neg (by decide),if_pos rfl] at ho;have T:=fun (h:top=true/\rlo=0)=>fin2 ((F.num uq).sub p.f) (by rw[ho];exact if_pos h);have N:=fun (h:¬(top=true/\rlo=0))=>fin3 (by rw[ho];exact if_neg h);rw[hX12] at T;clear ho fin2 fin3;refine yB (by simp) ?_;cbv;refine yB (by simp) ?_;cbv;refine yB (by simp) ?_;cbv;refine yB (by simp) ?_;cbv;refine yB (by simp) ?_;cbv;refine yB (by simp) ?_;cbv;refine yB (by simp) ?_;cbv;refine w7 (by simp) ?_;cbv;refine vC 11 [(10,16)] (by cbv) (by cbv) (by cbv) ?_;cbv;refine dA nU ?_;cbv;refine dA d12' ?_;cbv;refine z7 (fun e1=>?_) (fun e1=>?_)
   ·cbv;refine zP (fun e9=>?_) (fun e9=>?_)
    ·cbv;obtain⟨g1,g2⟩:=T (by simp_all);cases g1;subst g2
     (refine rC ?_;cbv)
     exact okA
    ·cbv;obtain⟨g0,g1,g2,g3,g4⟩:=N (by simp_all);subst g0 g1 g2 g3 g4
     (refine rC ?_;cbv)
     exact okA
   ·cbv;obtain⟨g0,g1,g2,g3,g4⟩:=N (by simp_all);subst g0 g1 g2 g3 g4
    (refine rC ?_;cbv)
    exact okA
 ·as_aux_lemma =>
   rw[if_neg (by decide),if_neg (by decide),if_neg (by decide),if_neg (by decide),if_neg (by decide),if_neg (by decide),if_neg (by decide),if_neg (by decide),if_pos rfl] at ho;have T:=fun (h:low=true/\top=true/\sl<0/\0<su)=>fin2 (((p.f.sub (F.num lq)).scale uq).sub (v.scale (uq-lq))) (by rw[ho];exact if_pos h);have N:=fun (h:¬(low=true/\top=true/\sl<0/\0<su))=>fin3 (by rw[ho];exact if_neg h);rw[hX13] at T;clear ho fin2 fin3;refine yB (by simp) ?_;cbv;refine yB (by simp) ?_;cbv;refine yB (by simp) ?_;cbv;refine yB (by simp) ?_;cbv;refine yB (by simp) ?_;cbv;refine yB (by simp) ?_;cbv;refine yB (by simp) ?_;cbv;refine yB (by simp) ?_;cbv;refine w7 (by simp) ?_;cbv;refine jS 7 (by cbv) (by cbv) ?_;cbv;refine dA nL ?_;cbv;refine dA d11' ?_;cbv;refine dA d13a' ?_;cbv;refine vC 22 [(21,16)] (by cbv) (by cbv) (by cbv) ?_;cbv;refine dA d13d' ?_;cbv;refine dA d13b' ?_;cbv;refine dA d13' ?_;cbv;refine z7 (fun e1=>?_) (fun e1=>?_)
   ·cbv;refine z7 (fun e2=>?_) (fun e2=>?_)
    ·cbv;refine dA csl ?_;cbv;refine zQ (fun e3=>?_) (fun e3=>?_)
     ·cbv;refine dA csu ?_;cbv;refine zP (fun e9=>?_) (fun e9=>?_)
      ·cbv;obtain⟨g1,g2⟩:=T (by simp_all);cases g1;subst g2
       (refine rC ?_;cbv)
       exact okA
      ·cbv;obtain⟨g0,g1,g2,g3,g4⟩:=N (by simp_all);subst g0 g1 g2 g3 g4
       (refine rC ?_;cbv)
       exact okA
     ·cbv;obtain⟨g0,g1,g2,g3,g4⟩:=N (fun h=>e3 h.2.2.1);subst g0 g1 g2 g3 g4
      (refine rC ?_;cbv)
      exact okA
    ·cbv;obtain⟨g0,g1,g2,g3,g4⟩:=N (by simp_all);subst g0 g1 g2 g3 g4
     (refine rC ?_;cbv)
     exact okA
   ·cbv;obtain⟨g0,g1,g2,g3,g4⟩:=N (by simp_all);subst g0 g1 g2 g3 g4
    (refine rC ?_;cbv)
    exact okA
 ·as_aux_lemma =>
   have N:=fun (_:True)=>fin3 (by rw[ho,if_neg oM,if_neg oM,if_neg oM,if_neg oM,if_neg oM,if_neg oM,if_neg oM,if_neg oM,if_neg oM]);refine yB oM ?_;cbv;refine yB oM ?_;cbv;refine yB oM ?_;cbv;refine yB oM ?_;cbv;refine yB oM ?_;cbv;refine yB oM ?_;cbv;refine yB oM ?_;cbv;refine yB oM ?_;cbv;refine yB oM ?_;cbv;obtain⟨g0,g1,g2,g3,g4⟩:=N (trivial);subst g0 g1 g2 g3 g4
   (refine rC ?_;cbv)
   exact okA
theorem zNY (i:Int)(x:R)(hx:x.sz (2^26)):zE 164 [av (fA (F.var i)),av ⟨[],x⟩] (av (fA ((F.var i).sub (F.num x.q)))):=by have h:=zMX (F.var i).ts (zJ (F.var i).c) ⟨[],x⟩ (tL i) Cn.nil ⟨by show 1<_;decide,fun t ht=>((gL i).t t ht).mono (by decide)⟩ ((zU (gL i).c).mono (by decide)) ⟨⟨by show 0<_;decide,fun t ht=>absurd ht (by simp)⟩,hx⟩ (by show 1+0<_;decide);rw[z6] at h;exact h
theorem zVJ (i:Int)(x:R)(hx:x.sz (2^26)):zE 164 [av ⟨[],x⟩,av (fA (F.var i))] (av (fA ((F.num x.q).sub (F.var i)))):=by have h:=zMX [] x (fA (F.var i)) Cn.nil (by rw[show (fA (F.var i)).ts=tR (F.var i).ts from rfl,zL8];exact tL i) ⟨by show 0<_;decide,fun t ht=>absurd ht (by simp)⟩ (hx.mono (by decide)) ((zMF (gL i) (by decide)).mono (by decide)) (by rw[show (fA (F.var i)).ts=tR (F.var i).ts from rfl,vI];show 0+1<_;decide);rw[kY] at h;exact h
theorem zRY {s:Scp}{r:Row}(h:14<=r.k):s.fUn r=none:=by unfold Scp.fUn;split;{split;{unfold unF;rw[if_neg oM,if_neg oM,if_neg oM,if_neg oM,if_neg oM,if_neg oM,if_neg oM,if_neg oM,if_neg oM]};{rfl}};{rfl}
theorem zQ5 (s:Scp)(r:Row)(hs:s.sz (2^20)):zE 200 [sv s,rwv r] (.tup [fv ((s.fm r).getD F.zero),.bool (fun _=>(s.fm r).isSome)]):=by
 refine sF Tryz.f200 ?_;have cv:=zG3 s.q (hs.q.mono (by decide));have cun:=fun (h:s.q.valid=true)=>zYL s r hs (Qry.can_of h) (Qry.vok_of h).n1 (Qry.vok_of h).n2 (Qry.vok_of h).ul (Qry.vok_of h).up;have crw:=fun (h:s.q.valid=true)=>(Qry.can_of h).rows;have hft:∀ d,d∈s.path->zE 163 [qv s.q,dv d] (.bool (fun _=>d.fits s.q)):=fun d hd=>zMY s.q d ((hs.path.sz d hd).mono (by decide));have f2:s.q.valid=false->s.fm r=none:=fun h=>if_pos (.inr (.inr h));have f0:r.k<1->s.fm r=none:=fun h=>if_pos (.inl h);have f3:s.q.valid=true->1<=r.k->r.k<=4->s.fm r=s.fIn r:=fun h h1 h2=>by unfold Scp.fm;rw[if_neg (by rw[h];simp;omega),if_pos h2]
 have f4:s.q.valid=true->5<=r.k->s.fm r=s.fUn r:=fun h h1=>by by_cases h14:14<=r.k;{rw[zRY h14];exact if_pos (.inr (.inl h14))};unfold Scp.fm;rw[if_neg (by rw[h];simp;omega),if_neg oM]
 have fno:¬(r.plain=true/\0<=r.i)->s.fIn r=none:=fun h=>if_neg h;have p1:r.plain=true->0<=r.i->r.k=1->s.fIn r=s.q.r.lo[r.i.toNat]?.map fun x=>(F.var r.i).sub (F.num x.q):=fun h1 h2 h3=>by unfold Scp.fIn;rw[if_pos ⟨h1,h2⟩,if_pos h3]
 have p2:r.plain=true->0<=r.i->r.k=2->s.fIn r=s.q.r.hi[r.i.toNat]?.map fun x=>(F.num x.q).sub (F.var r.i):=fun h1 h2 h3=>by unfold Scp.fIn;rw[if_pos ⟨h1,h2⟩,if_neg oM,if_pos h3]
 have p3:r.plain=true->0<=r.i->r.k=3->s.fIn r=s.q.r.rows[r.i.toNat]?.map fun f=>f.f.add F.zero:=fun h1 h2 h3=>by unfold Scp.fIn;rw[if_pos ⟨h1,h2⟩,if_neg oM,if_neg oM,if_pos h3]
 have p4:∀ d,r.plain=true->0<=r.i->r.k=4->s.path[r.i.toNat]?=some d->s.fIn r=if d.fits s.q=true then (if d.k=3 then some ((F.var d.i).sub (F.num d.x.q)) else if d.k=4 then some (((F.var d.i).sub (F.num d.x.q)).scale (-1)) else none) else none:=fun d h1 h2 h3 h4=>by unfold Scp.fIn;rw[if_pos ⟨h1,h2⟩,if_neg oM,if_neg oM,if_neg oM,if_pos h3,h4]
 have p4n:r.plain=true->0<=r.i->r.k=4->s.path[r.i.toNat]?=none->s.fIn r=none:=fun h1 h2 h3 h4=>by unfold Scp.fIn;rw[if_pos ⟨h1,h2⟩,if_neg oM,if_neg oM,if_neg oM,if_pos h3,h4]
 have hlo:=hs.q.r.lo.sz;have hhi:=hs.q.r.hi.sz;have hpa:=hs.path.sz;obtain⟨ft,hftd⟩:∃ ft:Dec->Bool,∀ d,ft d=d.fits s.q:=⟨_,fun _=>rfl⟩;simp only[<-hftd] at hft p4;clear hftd;obtain⟨o,ho⟩:∃ o,o=s.fm r:=⟨_,rfl⟩;rw[<-ho] at f0 f2 f3 f4 ⊢;obtain⟨W,hW⟩:∃ W,W=fA (o.getD F.zero):=⟨_,rfl⟩;obtain⟨b,hb⟩:∃ b,b=o.isSome:=⟨_,rfl⟩;rw[show fv (o.getD F.zero)=av W by rw[hW],<-hb];have fin2:∀ f,o=some f->W=fA f/\b=true:=fun f h=>by rw[h] at hW hb;exact⟨hW,hb⟩
 have fin1:o=none->W=⟨[],R0⟩/\b=false:=fun h=>by rw[h] at hW hb;exact⟨hW.trans uS,hb⟩
 obtain⟨wt,w1,w2,w3⟩:=W;have fin3:o=none->wt=[]/\w1=false/\w2=[]/\w3=[]/\b=false:=fun h=>by obtain⟨h1,h2⟩:=fin1 h;simp only[A.mk.injEq,R.mk.injEq] at h1;exact⟨h1.1,h1.2.1,h1.2.2.1,h1.2.2.2,h2⟩
 clear fin1;have g4:s.q.valid=true->5<=r.k->zE 249 [sv s,rwv r] (.tup [av ⟨wt,w1,w2,w3⟩,.bool (fun _=>b)]):=fun h h1=>by rw[hW,hb,f4 h h1];exact cun h
 clear hW hb f4 cun ho;generalize s.q.valid=vd at *
 generalize s.fIn r=oi at *
 obtain⟨⟨⟨gn,us,os⟩,⟨lo,hi,rows⟩,⟨ts,c1,c2,c3⟩⟩,path,lems⟩:=s;obtain⟨k,i,rlo,rhi⟩:=r;simp only[Row.plain] at f0 f2 f3 fno p1 p2 p3 p4 p4n hlo hhi hpa crw hft g4;cbv;refine cA cv ?_;cbv;refine zP (fun ev=>?_) (fun ev=>?_)
 rotate_left
 ·cbv;obtain⟨q0,q1,q2,q3,q4⟩:=fin3 (f2 ev);subst q0 q1 q2 q3 q4
  (refine rC ?_;cbv)
  exact okA
 cbv;refine zG (fun e5=>?_) (fun e5=>?_)
 ·have g:=g4 ev e5;cbv;refine cA g ?_;cbv
  (refine rC ?_;cbv)
  exact okA
 dsimp only at e5;have f5:oi=none->o=none:=fun h=>by by_cases h1:k<1;{exact f0 h1};{rw[f3 ev oM oM,h]}
 have f6:∀ f,1<=k->oi=some f->o=some f:=fun f h1 h=>by rw[f3 ev h1 oM,h]
 clear g4 f2 cv f3;have Z:=fun (h:oi=none)=>fin3 (f5 h);clear f5;cbv;refine zQ (fun e1=>?_) (fun e1=>?_)
 rotate_left
 ·have hz:oi=none:=fno (by dsimp only at e1;simp[e1]);cbv;obtain⟨q0,q1,q2,q3,q4⟩:=Z hz;subst q0 q1 q2 q3 q4
  (refine rC ?_;cbv)
  exact okA
 cbv;refine zQ (fun e2=>?_) (fun e2=>?_)
 rotate_left
 ·have hz:oi=none:=fno (by dsimp only at e2;simp[e2]);cbv;obtain⟨q0,q1,q2,q3,q4⟩:=Z hz;subst q0 q1 q2 q3 q4
  (refine rC ?_;cbv)
  exact okA
 cbv;refine zG (fun e3=>?_) (fun e3=>?_)
 ·have hz:oi=none:=fno (by dsimp only at e3;omega);cbv;obtain⟨q0,q1,q2,q3,q4⟩:=Z hz;subst q0 q1 q2 q3 q4
  (refine rC ?_;cbv)
  exact okA
 cbv;have hpl:(decide (rlo=0)&&decide (rhi=0))=true:=by dsimp only at e1 e2;simp_all
 obtain⟨ip,hip⟩:∃ j:Nat,i=(j:Int):=⟨i.toNat,by dsimp only at e3;omega⟩;subst hip;simp only[mW] at p1 p2 p3 p4 p4n;have hk:k=1\/k=2\/k=3\/k=4\/k<1:=by omega
 rcases hk with rfl|rfl|rfl|rfl|hk
 ·refine w7 (by simp) ?_;cbv;refine zG (fun e=>?_) (fun e=>?_)
  ·(have hl:=gU e;obtain⟨x,hx⟩:=zT hl;have hxm:=yA hx;have po:=p1 hpl (by show (0:Int)<=(ip:Int);omega) rfl;rw[hx] at po;have T:=fin2 _ (f6 _ (by decide) po);have dv:=zFA (ip:Int);have dn:=zBR x;have d:=zNY (ip:Int) x ((hlo x hxm).mono (by decide));obtain⟨V,hV⟩:∃ V,fA (F.var (ip:Int))=V:=⟨_,rfl⟩;obtain⟨X,hX⟩:∃ V,fA ((F.var (ip:Int)).sub (F.num x.q))=V:=⟨_,rfl⟩;rw[hX] at T d;rw[hV] at d;have dv':zE 119 [.int .i64 (fun _=>(ip:Int))] (av V):=by subst hV;exact dv);clear dv hX hV
   cbv;refine zN 11 (by cbv) ?_;cbv;refine dA dv' ?_;cbv;refine yX hx gG bG ?_;cbv;refine dA dn ?_;cbv;refine dA d ?_;cbv;obtain⟨g1,g2⟩:=T;cases g1;subst g2
   (refine rC ?_;cbv)
   exact okA
  ·(have hz:oi=none:=by have hl:¬ip<lo.length:=fun h=>e (by rw[zA];show (ip:Int)<(lo.length:Int);omega);rw[p1 hpl (by show (0:Int)<=(ip:Int);omega) rfl,bE oM];rfl);cbv;obtain⟨q0,q1,q2,q3,q4⟩:=Z hz;subst q0 q1 q2 q3 q4
   (refine rC ?_;cbv)
   exact okA
 ·skip
  refine yB (by simp) ?_;cbv;refine w7 (by simp) ?_;cbv;refine zG (fun e=>?_) (fun e=>?_)
  ·(have hl:=gU e;obtain⟨x,hx⟩:=zT hl;have hxm:=yA hx;have po:=p2 hpl (by show (0:Int)<=(ip:Int);omega) rfl;rw[hx] at po;have T:=fin2 _ (f6 _ (by decide) po);have dv:=zFA (ip:Int);have dn:=zBR x;have d:=zVJ (ip:Int) x ((hhi x hxm).mono (by decide));obtain⟨V,hV⟩:∃ V,fA (F.var (ip:Int))=V:=⟨_,rfl⟩;obtain⟨X,hX⟩:∃ V,fA ((F.num x.q).sub (F.var (ip:Int)))=V:=⟨_,rfl⟩;rw[hX] at T d;rw[hV] at d;have dv':zE 119 [.int .i64 (fun _=>(ip:Int))] (av V):=by subst hV;exact dv);clear dv hX hV
   cbv;refine zN 11 (by cbv) ?_;cbv;refine yX hx gG bG ?_;cbv;refine dA dn ?_;cbv;refine dA dv' ?_;cbv;refine dA d ?_;cbv;obtain⟨g1,g2⟩:=T;cases g1;subst g2
   (refine rC ?_;cbv)
   exact okA
  ·(have hz:oi=none:=by have hl:¬ip<hi.length:=fun h=>e (by rw[zA];show (ip:Int)<(hi.length:Int);omega);rw[p2 hpl (by show (0:Int)<=(ip:Int);omega) rfl,bE oM];rfl);cbv;obtain⟨q0,q1,q2,q3,q4⟩:=Z hz;subst q0 q1 q2 q3 q4
   (refine rC ?_;cbv)
   exact okA
 ·skip
  refine yB (by simp) ?_;cbv;refine yB (by simp) ?_;cbv;refine w7 (by simp) ?_;cbv;refine zG (fun e=>?_) (fun e=>?_)
  ·have hl:=gU e;obtain⟨x,hx⟩:=zT hl;obtain⟨w1',w2'⟩:=crw ev x (yA hx);have po:=p3 hpl (by show (0:Int)<=(ip:Int);omega) rfl;rw[hx] at po;have T:=fin2 (x.f.add F.zero) (f6 _ (by decide) po);rw[add_zero w2',w1'] at T;cbv;refine yX hx gK bK ?_;cbv;obtain⟨g1,g2⟩:=T;cases g1;subst g2
   (refine rC ?_;cbv)
   exact okA
  ·(have hz:oi=none:=by have hl:¬ip<rows.length:=fun h=>e (by rw[zA];show (ip:Int)<(rows.length:Int);omega);rw[p3 hpl (by show (0:Int)<=(ip:Int);omega) rfl,bE oM];rfl);cbv;obtain⟨q0,q1,q2,q3,q4⟩:=Z hz;subst q0 q1 q2 q3 q4
   (refine rC ?_;cbv)
   exact okA
 ·skip
  refine yB (by simp) ?_;cbv;refine yB (by simp) ?_;cbv;refine yB (by simp) ?_;cbv;refine w7 (by simp) ?_;cbv;refine zN 18 (by cbv) ?_;cbv;refine zQ (fun e=>?_) (fun e=>?_)
  ·have hz:oi=none:=p4n hpl (by show (0:Int)<=(ip:Int);omega) rfl (bE (by rw[zA] at e;(try dsimp only [zF] at *);omega));cbv;obtain⟨q0,q1,q2,q3,q4⟩:=Z hz;subst q0 q1 q2 q3 q4
   (refine rC ?_;cbv)
   exact okA
  (have hl:ip<path.length:=by rw[zA] at e;(try dsimp only [zF] at *);omega);obtain⟨x,hx⟩:=zT hl
  (have hxm:=yA hx;have po:=p4 x hpl (by show (0:Int)<=(ip:Int);omega) rfl hx;have hsz:=hpa x hxm;have cf:=hft x hxm;have dv:=zFA x.i;have dn:=zBR x.x;have d:=zNY x.i x.x (hsz.mono (by decide));have co:=s32 (-1) (by decide) (by decide);have d2:=dX (q:=((-1:Int):Rat)) ((gL x.i).sub (kW (hsz.fits (by decide)))) wZ (by decide) (by decide) (m:=1) (by decide);rw[show (((-1:Int):Rat))=(-1:Rat) by rfl] at co d2;obtain⟨V,hV⟩:∃ V,fA (F.var x.i)=V:=⟨_,rfl⟩;obtain⟨X,hX⟩:∃ V,fA ((F.var x.i).sub (F.num x.x.q))=V:=⟨_,rfl⟩;obtain⟨Y,hY⟩:∃ V,fA (((F.var x.i).sub (F.num x.x.q)).scale (-1))=V:=⟨_,rfl⟩;obtain⟨M1,hM1⟩:∃ V,zJ (-1:Rat)=V:=⟨_,rfl⟩;have T3:=fun h=>fin2 ((F.var x.i).sub (F.num x.x.q)) h;have T4:=fun h=>fin2 (((F.var x.i).sub (F.num x.x.q)).scale (-1)) h;rw[hX] at T3 d;rw[hV] at d;rw[hY] at T4;rw[hM1] at co;have dv':zE 119 [.int .i64 (fun _=>x.i)] (av V):=by subst hV;exact dv);have d2':zE 100 [av X,rv M1] (av Y):=by subst hX hY hM1;exact d2
  clear dv d2 hX hV hY hM1;obtain⟨fx,hfx⟩:∃ b,ft x=b:=⟨_,rfl⟩;rw[hfx] at cf po;cbv;refine yX hx qM jH ?_;cbv;refine dA cf ?_;cbv;refine zP (fun e2=>?_) (fun e2=>?_)
  rotate_left
  ·(have hz:oi=none:=by rw[po,e2];rfl);cbv
   obtain⟨q0,q1,q2,q3,q4⟩:=Z hz;subst q0 q1 q2 q3 q4
   (refine rC ?_;cbv)
   exact okA
  rw[if_pos e2] at po;cbv;refine yX hx qM jH ?_;cbv;refine jS 8 (by cbv) (by cbv) ?_;cbv;refine dA dv' ?_;cbv;refine dA dn ?_;cbv;refine dA d ?_;cbv;refine zG (fun e3=>?_) (fun e3=>?_)
  ·rw[if_pos e3] at po;have T:=T3 (f6 _ (by decide) po);cbv;obtain⟨g1,g2⟩:=T;cases g1;subst g2
   (refine rC ?_;cbv)
   exact okA
  rw[if_neg e3] at po;cbv;refine zG (fun e4=>?_) (fun e4=>?_)
  ·rw[if_pos e4] at po;have T:=T4 (f6 _ (by decide) po);cbv;refine zN 3 (by cbv) ?_;cbv;refine dA co ?_;cbv;refine dA d2' ?_;cbv;obtain⟨g1,g2⟩:=T;cases g1;subst g2
   (refine rC ?_;cbv)
   exact okA
  rw[if_neg e4] at po;cbv;obtain⟨q0,q1,q2,q3,q4⟩:=Z po;subst q0 q1 q2 q3 q4
  (refine rC ?_;cbv)
  exact okA
 ·skip
  refine yB (by show ¬k=1;omega) ?_;cbv;refine yB (by show ¬k=2;omega) ?_;cbv;refine yB (by show ¬k=3;omega) ?_;cbv;refine yB (by show ¬k=4;omega) ?_;cbv;obtain⟨q0,q1,q2,q3,q4⟩:=fin3 (f0 oM);subst q0 q1 q2 q3 q4
  (refine rC ?_;cbv)
  exact okA
theorem zV1 {s:Scp}{r:Row}{f:F}(hc:s.q.can)(h:s.fIn r=some f):Cn f.ts:=by unfold Scp.fIn at h;split at h;{split at h;{obtain⟨x,_,rfl⟩:=zHE.1 h;exact zE9 (tL _) Cn.nil};{split at h;{obtain⟨x,_,rfl⟩:=zHE.1 h;exact zE9 (Cn.nil:Cn (F.num _).ts) (tL _)};{split at h;{obtain⟨x,hx,rfl⟩:=zHE.1 h;have:=(hc.rows x (yA hx)).2;rw[add_zero this];exact this};{split at h;{split at h;{split at h;{split at h;{cases h;exact zE9 (tL _) Cn.nil};{split at h;{cases h;exact rF (zE9 (tL _) Cn.nil)};{cases h}}};{cases h}};{cases h}};{cases h}}}}};{cases h}
theorem zTD {s:Scp}{r:Row}{f:F}(h:s.fm r=some f):Cn f.ts:=by
 unfold Scp.fm at h;split at h;{cases h}
 ·rename_i hv;have hc:s.q.can:=Qry.can_of (by cases hvv:s.q.valid with
   |true=>rfl| false=>exact absurd (.inr (.inr hvv)) hv)
  split at h;{exact zV1 hc h};{unfold Scp.fUn at h;split at h;{split at h;{rename_i p hp;exact zXI (hc.us p (yA hp)).2 (tL _) h};{cases h}};{cases h}}
structure SumOk (s:Scp) (l:List Mult):Prop where
 fm:∀ m,m∈l->∀ f,s.fm m.row=some f->f.fl (2^24) 5000
 c:Msz (2^23) l
 pre:∀ i acc,sumL s F.zero (l.take i)=some acc->acc.fl (2^26) (2^30)
theorem zFS {s:Scp}{m:Mult}{f:F}(hf:s.fm m.row=some f):∀ {l:List Mult} {acc acc':F},sumL s acc l=some acc'->sumL s acc (l++[m])=some (acc'.add (f.scale m.c.q))
 |[],acc,acc',h=>by cases h;show (match s.fm m.row with|none=>none|some f=>sumL s (acc.add (f.scale m.c.q)) [])=_;rw[hf];rfl
 |x::r,acc,acc',h=>by
  rw[alT9];unfold sumL at h ⊢;cases hx:s.fm x.row with
  |none=>rw[hx] at h;cases h
  |some g =>
   rw[hx] at h;exact zFS hf h
theorem zCB {α:Type}{l:List α}{i:Nat}{a:α}(h:l[i]?=some a):l.take (i+1)=l.take i++[a]:=by rw[tF,h];rfl
theorem zVH (s:Scp)(l:List Mult)(hs:s.sz (2^20))(hok:SumOk s l):zE 166 [sv s,mlv l] (.tup [fv (s.sum l).2,.int .i64 (fun _=>(s.sum l).1)]):=by
 refine sF Tryz.f166 ?_;have hl:=hok.c;have cc:=zYI l (hl.mono (by decide));have cf:=fun r=>zQ5 s r (hs.mono (by decide));have h0:kH none l=false->s.sum l=(1,F.zero):=fun h=>if_pos h;have h1:kH none l=true->sumL s F.zero l=none->s.sum l=(12,F.zero):=fun h g=>by unfold Scp.sum;rw[if_neg (by rw[h];decide),g]
 have h2:∀ f,kH none l=true->sumL s F.zero l=some f->s.sum l=(0,f):=fun f h g=>by unfold Scp.sum;rw[if_neg (by rw[h];decide),g]
 obtain⟨W,hW⟩:∃ W,W=fA (s.sum l).2:=⟨_,rfl⟩;obtain⟨e,he⟩:∃ e,e=(s.sum l).1:=⟨_,rfl⟩;rw[show fv (s.sum l).2=av W by rw[hW],<-he];have g0:kH none l=false->W=⟨[],R0⟩/\e=1:=fun h=>by rw[h0 h] at hW he;exact⟨hW.trans uS,he⟩
 have g1:kH none l=true->sumL s F.zero l=none->W=⟨[],R0⟩/\e=12:=fun h g=>by rw[h1 h g] at hW he;exact⟨hW.trans uS,he⟩
 have g2:∀ f,kH none l=true->sumL s F.zero l=some f->W=fA f/\e=0:=fun f h g=>by rw[h2 f h g] at hW he;exact⟨hW,he⟩
 clear h0 h1 h2 hW he;have hll:l.length<2^38:=hl.len;have hsn:∀ acc m r,sumL s acc (m::r)=match s.fm m.row with
  |none=>none| some f=>sumL s (acc.add (f.scale m.c.q)) r:=fun _ _ _=>rfl
 have hfl:∀ m,m∈l->∀ f,s.fm m.row=some f->f.fl (2^24) 5000/\Cn f.ts:=fun m hm f h=>⟨hok.fm m hm f h,zTD h⟩;have hpre:=hok.pre;have hsn':∀ i m f acc,l[i]?=some m->s.fm m.row=some f->sumL s F.zero (l.take i)=some acc->sumL s F.zero (l.take (i+1))=some (acc.add (f.scale m.c.q)):=fun i m f acc h1 h2 h3=>by rw[zCB h1];exact zFS h2 h3
 obtain⟨PR,hPR⟩:∃ PR:Nat->F->Prop,∀ i acc,PR i acc=(sumL s F.zero (l.take i)=some acc):=⟨_,fun _ _=>rfl⟩;have hPR0:PR 0 F.zero:=by rw[hPR];rfl
 simp only[<-hPR] at hpre hsn';have hms:=hl.sz;obtain⟨T,hT⟩:∃ T:F->List Mult->Option F,sumL s=T:=⟨_,rfl⟩;have hTn:∀ acc,T acc []=some acc:=fun acc=>by rw[<-hT];rfl
 rw[hT] at hsn g1 g2;generalize kH none l=cn at *
 clear hT hs hl hok hPR;cbv;refine cA cc ?_;cbv;refine zP (fun e1=>?_) (fun e1=>?_)
 rotate_left
 ·cbv;obtain⟨q1,q2⟩:=g0 e1;subst q1 q2
  (refine rC ?_;cbv)
  exact okA
 have g1':=g1 e1;have g2':=fun f=>g2 f e1;clear g0 g1 g2 cc;cbv;refine z3 (σ:=Nat×F) (fun st=>⟨[(1,mlv l),(2,.ptr 2 0),(4,.ptr 4 0),(6,.ptr 6 0),(7,.int .i64 (fun _=>(st.1:Int)))],[(2,.box (sc s)),(4,.box [.nil,.ff,.nil,.nil]),(6,.box [tsv (fA st.2).ts,.bool (fun _=>(fA st.2).c.neg),nat (fA st.2).c.num,nat (fA st.2).c.den])]⟩)
  (fun st=>st.1<=l.length/\T F.zero l=T st.2 (l.drop st.1)/\PR st.1 st.2/\Cn st.2.ts) (fun st=>l.length-st.1)
  (0,F.zero) ⟨om,rfl,hPR0,Cn.nil⟩ (.le okZ ?_ rfl) ?_
 {show leO _ [(2,.box (sc s)),(4,.box [.nil,.ff,.nil,.nil]),(6,.box [tsv (fA F.zero).ts,.bool (fun _=>(fA F.zero).c.neg),nat (fA F.zero).c.num,nat (fA F.zero).c.den])];rw[uS];cbv;exact okA};intro st hst;obtain⟨h1,hv,ha,hcn⟩:=hst;generalize st.1=i at *
 generalize st.2=acc at *
 obtain⟨V,hV⟩:∃ V,fA acc=V:=⟨_,rfl⟩;simp only[hV];cbv;refine zG (fun h5=>?_) (fun h5=>?_)
 ·have hlt:=gU h5;obtain⟨m,hm⟩:=zT hlt;have hmem:=yA hm;rw[zY hm,hsn] at hv;have cfm:=cf m.row;have hmc:=hms m hmem;have hxf:∀ f,s.fm m.row=some f->f.fl (2^24) 5000/\Cn f.ts:=fun f h=>hfl m hmem f h;have hnx:∀ f,s.fm m.row=some f->PR (i+1) (acc.add (f.scale m.c.q)):=fun f h=>hsn' i m f acc hm h ha;have hap:=hpre i acc ha;generalize hx:s.fm m.row=o at *
  clear cf;cases o with
  |none =>
   (have hv':T F.zero l=none:=hv;obtain⟨q1,q2⟩:=g1' hv';have cfm':zE 200 [sv s,rwv m.row] (.tup [av ⟨[],R0⟩,.bool (fun _=>false)]):=by have h:zE 200 [sv s,rwv m.row] (.tup [av (fA F.zero),.bool (fun _=>false)]):=cfm;rw[uS] at h;exact h);clear cfm hv hv' g1' g2';subst q1 q2;cbv;refine vC 12 [(11,8)] (by cbv) (by cbv) (by cbv) ?_;cbv;refine yX hm vP wA ?_;cbv;refine dA cfm' ?_;cbv;refine zP (fun e=>absurd e (by decide)) (fun _=>?_);cbv
   (refine rC ?_;cbv)
   exact okA
  |some f =>
   have hv':T F.zero l=T (acc.add (f.scale m.c.q)) (l.drop (i+1)):=hv;obtain⟨hf,hfc⟩:=hxf f rfl;have b1:=hf.scale (hmc.fits (by decide));have cs:=zD2 (fA f) m.c ((hf.fit (by decide)).fA.mono (by decide)) (hmc.mono (by decide));rw[kY] at cs;have ca:=zQF hcn (rF (q:=m.c.q) hfc) hap b1 (by decide) (by decide) (by decide) (by decide);have hacc:=hnx f rfl;have hcn':Cn (acc.add (f.scale m.c.q)).ts:=hcn.mrg (rF hfc);have cfm':zE 200 [sv s,rwv m.row] (.tup [av (fA f),.bool (fun _=>true)]):=cfm;clear cfm hv hxf b1 ha hap hnx hcn hfc;dsimp only [fv] at cs ca;rw[hV] at ca;generalize hA':acc.add (f.scale m.c.q)=acc' at *
   obtain⟨V',hV'⟩:∃ V',fA acc'=V':=⟨_,rfl⟩;rw[hV'] at ca;generalize fA (f.scale m.c.q)=X at *
   generalize fA f=Y at *
   cbv;refine vC 12 [(11,8)] (by cbv) (by cbv) (by cbv) ?_;cbv;refine yX hm vP wA ?_;cbv;refine dA cfm' ?_;cbv;refine zP (fun _=>?_) (fun e=>absurd e (by decide));cbv;refine zN 9 (by cbv) ?_;cbv;refine yX hm vP wA ?_;cbv;refine dA cs ?_;cbv;refine dA ca ?_;cbv;refine⟨zD om om,(i+1,acc'),⟨om,hv',hacc,hcn'⟩,om,.le okZ ?_ rfl⟩;show leO _ [(2,.box (sc s)),(4,.box [.nil,.ff,.nil,.nil]),(6,.box [tsv (fA acc').ts,.bool (fun _=>(fA acc').c.neg),nat (fA acc').c.num,nat (fA acc').c.den])];rw[hV'];cbv;exact okA
 ·have hi:i=l.length:=bJ h5 h1;rw[hi,w4,hTn] at hv;obtain⟨q1,q2⟩:=g2' acc hv;rw[hV] at q1;clear g1' g2' hv;subst q1 q2;cbv
  (refine rC ?_;cbv)
  exact okA
theorem zNS {s:Scp}:∀ {l:List Mult} {acc f:F},Cn acc.ts->sumL s acc l=some f->Cn f.ts
 |[],acc,f,h,e=>by cases e;exact h
 |m::r,acc,f,h,e=>by
  unfold sumL at e;cases hx:s.fm m.row with
  |none=>rw[hx] at e;cases e
  |some g =>
   rw[hx] at e;exact zNS (h.mrg (rF (zTD hx))) e
theorem Scp.sum_can (s:Scp)(l:List Mult):Cn (s.sum l).2.ts:=by unfold Scp.sum;split;{exact Cn.nil};{split;{exact Cn.nil};{rename_i h;exact zNS (acc:=F.zero) Cn.nil h}}
theorem Scp.sum_fl' {s:Scp}{l:List Mult}(h:SumOk s l):(s.sum l).2.fl (2^26) (2^30):=by unfold Scp.sum;split;{exact zero_fl.mono (by decide) (by decide)};{split;{exact zero_fl.mono (by decide) (by decide)};{rename_i f hf;exact h.pre l.length f (by rw[v9];exact hf)}}


end Go.Proofs.YtaeaffgjdcigoaaGreat
