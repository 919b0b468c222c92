/- A part of the proof: RwE, DvB, DvC, SoA, RoE, CoA. -/
import Derived.Test.YtaeaffgjdcigoaaGreatC25
import Derived.Test.YtaeaffgjdcigoaaGreatC23
import Derived.Test.YtaeaffgjdcigoaaGreatC21
import Derived.Laws.StructEq
import Derived.ChangeKeysEq
set_option linter.all false
namespace Go.Proofs.YtaeaffgjdcigoaaGreat
open Go
set_option maxRecDepth 100000
set_option maxHeartbeats 2000000
theorem zSE {vars:Int}:∀ {l:List (Int×R)} {p:Int},vT vars p l=true->l.length=0\/(l.length:Int)<=vars-1-p
 |[],_,_=>.inl rfl
 |t::r,p,h=>by rw[zC5] at h;simp only[yT,decide_eq_true_eq] at h;have:=zSE h.2;simp only[kI];omega
theorem zAE {a:A}{vars:Int}(h:a.valid vars=true)(hv:0<=vars):(a.ts.length:Int)<=vars:=by unfold A.valid at h;simp only[yT] at h;have:=zSE h.1;omega
theorem zMQ:∀ {l:List A} {k:Int} {a:A},vU k l=true->a∈l->∃ j:Nat,j<l.length/\a.valid (k+j)=true
 |f::r,k,a,h,ha=>by rw[zNL,yT] at h;rcases yI.1 ha with rfl|ha;{exact⟨0,by simp,by simpa using h.1⟩};{obtain⟨j,h1,h2⟩:=zMQ h.2 ha;exact⟨j+1,by simpa using h1,by rw[show k+((j+1:Nat):Int)=k+1+j by omega];exact h2⟩}
structure Qry.vok (q:Qry):Prop where
 n1:1<=q.g.n
 n2:q.g.n<=256
 ul:q.g.us.length<=1024
 ol:q.g.os.length<=256
 rl:q.r.rows.length<=256
 lo:(q.r.lo.length:Int)=q.g.n
 hi:(q.r.hi.length:Int)=q.g.n
 up:∀ a,a∈q.g.us->a.ts.length<=2000
 op:∀ a,a∈q.g.os->a.ts.length<=2000
 rp:∀ a,a∈q.r.rows->a.ts.length<=2000
theorem Qry.vok_of {q:Qry}(h:q.valid=true):q.vok:=by unfold Qry.valid Grp.valid Reg.valid at h;simp only[yT,decide_eq_true_eq,tG] at h;obtain⟨⟨⟨⟨h1,h2⟩,h3⟩,⟨h4,h5⟩,h6⟩,h7⟩:=h;refine⟨h1.1,h1.2.1,h1.2.2.1,h1.2.2.2.2,h4.2.2.2.2,h4.2.2.1,h4.2.2.2.1,fun a ha=>?_,fun a ha=>?_,fun a ha=>?_⟩;{obtain⟨j,g1,g2⟩:=zMQ h2 ha;have:=zAE g2 oM;omega};{have:=zAE (h3 a ha) (by unfold Grp.vars;omega);unfold Grp.vars at this;omega};{have:=zAE (h6 a ha) oM;omega}
def Scp.fm (s:Scp) (r:Row):Option F :=
 if r.k<1\/14<=r.k\/s.q.valid=false then none else if r.k<=4 then s.fIn r else s.fUn r
theorem bB {k:Int}{len:Nat}{K:Nat->Prop}(j:Nat)(hk:k=(j:Int))(hj:j<len)(hK:K j):AtOk (fun _=>k) len K:=⟨⟨j,hk,hj,hK⟩⟩
theorem zVF (s:Scp)(r:Row)(hs:s.sz (2^28)):zE 230 [sv s,rwv r] (.tup [fv ((s.fm r).getD F.zero),.bool (fun _=>(s.fm r).isSome)]):=by
 refine sF Tryz.f230 ?_;have cv:=tU s.q (hs.q.mono (by decide));have cin:=yAB s r hs;have cun:=fun (h:s.q.valid=true)=>zZ9 s r hs (Qry.vok_of h).n1 (Qry.vok_of h).n2 (Qry.vok_of h).ul (Qry.vok_of h).up;have f0:r.k<1->s.fm r=none:=fun h=>if_pos (.inl h);have f1:14<=r.k->s.fm r=none:=fun h=>if_pos (.inr (.inl h));have f2:s.q.valid=false->s.fm r=none:=fun h=>if_pos (.inr (.inr h));have f3:s.q.valid=true->1<=r.k->r.k<=4->s.fm r=s.fIn r:=fun h h1 h2=>by unfold Scp.fm;rw[if_neg (by rw[h];simp;omega),if_pos h2]
 have f4:s.q.valid=true->5<=r.k->r.k<14->s.fm r=s.fUn r:=fun h h1 h2=>by unfold Scp.fm;rw[if_neg (by rw[h];simp;omega),if_neg oM]
 obtain⟨o,ho⟩:∃ o,o=s.fm r:=⟨_,rfl⟩;rw[<-ho] at f0 f1 f2 f3 f4 ⊢;obtain⟨W,hW⟩:∃ W,W=fA (o.getD F.zero):=⟨_,rfl⟩;obtain⟨b,hb⟩:∃ b,b=o.isSome:=⟨_,rfl⟩;rw[show fv (o.getD F.zero)=av W by rw[hW],<-hb];have fin1:o=none->W=⟨[],R0⟩/\b=false:=fun h=>by rw[h] at hW hb;exact⟨hW.trans uS,hb⟩
 obtain⟨wt,w1,w2,w3⟩:=W;have fin3:o=none->wt=[]/\w1=false/\w2=[]/\w3=[]/\b=false:=fun h=>by obtain⟨h1,h2⟩:=fin1 h;simp only[A.mk.injEq,R.mk.injEq] at h1;exact⟨h1.1,h1.2.1,h1.2.2.1,h1.2.2.2,h2⟩
 clear fin1;have g3:s.q.valid=true->1<=r.k->r.k<=4->zE 272 [sv s,rwv r] (.tup [av ⟨wt,w1,w2,w3⟩,.bool (fun _=>b)]):=fun h h1 h2=>by rw[hW,hb,f3 h h1 h2];exact cin
 have g4:s.q.valid=true->5<=r.k->r.k<14->zE 273 [sv s,rwv r] (.tup [av ⟨wt,w1,w2,w3⟩,.bool (fun _=>b)]):=fun h h1 h2=>by rw[hW,hb,f4 h h1 h2];exact cun h
 clear hW hb f3 f4 cin cun ho;generalize s.q.valid=vd at *
 cbv;refine zQ (fun e1=>?_) (fun e1=>?_)
 ·cbv;obtain⟨q0,q1,q2,q3,q4⟩:=fin3 (f0 e1);subst q0 q1 q2 q3 q4
  (refine rC ?_;cbv)
  exact okA
 cbv;refine zQ (fun e2=>?_) (fun e2=>?_)
 ·cbv;obtain⟨q0,q1,q2,q3,q4⟩:=fin3 (f1 e2);subst q0 q1 q2 q3 q4
  (refine rC ?_;cbv)
  exact okA
 cbv;refine tE [2,3,4,6,18,16] [2,3,4,6] rfl rfl okA (cv) rfl ?_;cbv;refine zP (fun e3=>?_) (fun e3=>?_)
 rotate_left
 ·cbv;obtain⟨q0,q1,q2,q3,q4⟩:=fin3 (f2 e3);subst q0 q1 q2 q3 q4
  (refine rC ?_;cbv)
  exact okA
 cbv;clear cv f0 f1 f2 fin3;have hk:r.k=1\/r.k=2\/r.k=3\/r.k=4\/r.k=5\/r.k=6\/r.k=7\/r.k=8\/r.k=9\/r.k=10\/r.k=11\/r.k=12\/r.k=13:=by omega
 refine zEK 9 [2,3,4,6] [2,3,4,6] rfl (by cbv) ?_;cbv;rcases hk with hk|hk|hk|hk|hk|hk|hk|hk|hk|hk|hk|hk|hk
 ·have cc:=g3 e3 oM oM;clear g3 g4;refine bB 1 hk (by decide) ?_;cbv;refine x9 okA cc rfl ?_;cbv
  (refine rC ?_;cbv)
  exact okA
 ·have cc:=g3 e3 oM oM;clear g3 g4;refine bB 2 hk (by decide) ?_;cbv;refine x9 okA cc rfl ?_;cbv
  (refine rC ?_;cbv)
  exact okA
 ·have cc:=g3 e3 oM oM;clear g3 g4;refine bB 3 hk (by decide) ?_;cbv;refine x9 okA cc rfl ?_;cbv
  (refine rC ?_;cbv)
  exact okA
 ·have cc:=g3 e3 oM oM;clear g3 g4;refine bB 4 hk (by decide) ?_;cbv;refine x9 okA cc rfl ?_;cbv
  (refine rC ?_;cbv)
  exact okA
 ·have cc:=g4 e3 oM oM;clear g3 g4;refine bB 5 hk (by decide) ?_;cbv;refine x9 okA cc rfl ?_;cbv
  (refine rC ?_;cbv)
  exact okA
 ·have cc:=g4 e3 oM oM;clear g3 g4;refine bB 6 hk (by decide) ?_;cbv;refine x9 okA cc rfl ?_;cbv
  (refine rC ?_;cbv)
  exact okA
 ·have cc:=g4 e3 oM oM;clear g3 g4;refine bB 7 hk (by decide) ?_;cbv;refine x9 okA cc rfl ?_;cbv
  (refine rC ?_;cbv)
  exact okA
 ·have cc:=g4 e3 oM oM;clear g3 g4;refine bB 8 hk (by decide) ?_;cbv;refine x9 okA cc rfl ?_;cbv
  (refine rC ?_;cbv)
  exact okA
 ·have cc:=g4 e3 oM oM;clear g3 g4;refine bB 9 hk (by decide) ?_;cbv;refine x9 okA cc rfl ?_;cbv
  (refine rC ?_;cbv)
  exact okA
 ·have cc:=g4 e3 oM oM;clear g3 g4;refine bB 10 hk (by decide) ?_;cbv;refine x9 okA cc rfl ?_;cbv
  (refine rC ?_;cbv)
  exact okA
 ·have cc:=g4 e3 oM oM;clear g3 g4;refine bB 11 hk (by decide) ?_;cbv;refine x9 okA cc rfl ?_;cbv
  (refine rC ?_;cbv)
  exact okA
 ·have cc:=g4 e3 oM oM;clear g3 g4;refine bB 12 hk (by decide) ?_;cbv;refine x9 okA cc rfl ?_;cbv
  (refine rC ?_;cbv)
  exact okA
 ·have cc:=g4 e3 oM oM;clear g3 g4;refine bB 13 hk (by decide) ?_;cbv;refine x9 okA cc rfl ?_;cbv
  (refine rC ?_;cbv)
  exact okA
theorem rR {c:Rat}{k n m:Nat}(hc:Fits m c):∀ {a b:List (Int×Rat)},(∀ t,t∈a->Fits k t.2)->(∀ t,t∈b->Fits n t.2)->∀ u,u∈mrg c a b->Fits (k+n+m+1) u.2
 |[],[],_,_,u,h=>by rw[mrg] at h;exact absurd h (by simp)| a::aa,[],ha,hb,u,h=>by rw[mrg] at h;rcases qF h with rfl|h;{exact (ha a xM).mono oM};{exact rR hc (fun t ht=>ha t (xN _ ht)) hb u h}
 |[],b::bb,ha,hb,u,h=>by rw[mrg] at h;rcases qF h with rfl|h;{exact (y6 (hb b xM) hc).mono oM};{exact rR hc ha (fun t ht=>hb t (xN _ ht)) u h}
 |a::aa,b::bb,ha,hb,u,h=>by rw[mrg] at h;split at h;{rcases qF h with rfl|h;{exact (ha a xM).mono oM};{exact rR hc (fun t ht=>ha t (xN _ ht)) hb u h}};{split at h;{rcases qF h with rfl|h;{exact (y6 (hb b xM) hc).mono oM};{exact rR hc ha (fun t ht=>hb t (xN _ ht)) u h}};{rcases qF h with rfl|h;{exact (qT (ha a xM) (y6 (hb b xM) hc)).mono oM};{exact rR hc (fun t ht=>ha t (xN _ ht)) (fun t ht=>hb t (xN _ ht)) u h}}}
termination_by a b=>a.length+b.length
structure F.fl (f:F) (k n:Nat):Prop where
 t:∀ t,t∈f.ts->Fits k t.2
 c:Fits k f.c
 len:f.ts.length<=n
theorem F.fl.fit {f:F}{k n:Nat}(h:f.fl k n)(hn:n<2^38):f.fit k:=⟨⟨xP h.len hn,h.t⟩,h.c⟩
theorem F.fl.mono {f:F}{k n k' n':Nat}(h:f.fl k n)(hk:k<=k')(hn:n<=n'):f.fl k' n':=⟨fun t ht=>(h.t t ht).mono hk,h.c.mono hk,vD h.len hn⟩
theorem F.fl.merge {f g:F}{c:Rat}{k n k' n' m:Nat}(hf:f.fl k n)(hg:g.fl k' n')(hc:Fits m c):(f.merge g c).fl (k+k'+m+1) (n+n') :=
 ⟨rR hc hf.t hg.t,(qT hf.c (y6 hg.c hc)).mono oM,vD (bY _ _ _) (Nat.add_le_add hf.len hg.len)⟩
theorem zero_fl:F.zero.fl 1 0:=⟨fun t ht=>absurd ht (by simp[F.zero]),uK (by decide),zZ _⟩
theorem gL (v:Int):(F.var v).fl 1 1:=⟨(pG v).t.fit,(pG v).c,zZ _⟩
theorem kW {k:Nat}{q:Rat}(h:Fits k q):(F.num q).fl k 0:=⟨(dY h).t.fit,h,zZ _⟩
theorem F.fl.add {f g:F}{k n k' n':Nat}(hf:f.fl k n)(hg:g.fl k' n'):(f.add g).fl (k+k'+2) (n+n'):=(hf.merge hg fits_one).mono oM (zZ _)
theorem F.fl.sub {f g:F}{k n k' n':Nat}(hf:f.fl k n)(hg:g.fl k' n'):(f.sub g).fl (k+k'+2) (n+n'):=(hf.merge hg wZ).mono oM (zZ _)
theorem F.fl.scale {f:F}{c:Rat}{k n m:Nat}(hf:f.fl k n)(hc:Fits m c):(f.scale c).fl (k+m+2) n:=(F.fl.merge zero_fl hf hc).mono oM oM
theorem A.sz.fl {a:A}{k n:Nat}(h:a.sz k)(hk:1<=k)(hn:a.ts.length<=n):a.f.fl k n:=⟨(h.t.fit hk).fit,h.c.fits hk,by show (tq a.ts).length<=n;unfold tq;rw[xA];exact hn⟩
theorem zZM {s:Scp}{r:Row}{k:Nat}{f:F}(hs:s.sz k)(hk:1<=k)(hv:s.q.vok)(h:s.fIn r=some f):f.fl (16*k) 5000:=by
 unfold Scp.fIn at h;split at h
 ·split at h
  ·cases hx:s.q.r.lo[r.i.toNat]? with
   |none=>rw[hx] at h;cases h
   |some x =>
    rw[hx] at h;cases h;exact ((gL r.i).sub (kW ((hs.q.r.lo.sz x (yA hx)).fits hk))).mono oM oM
  ·split at h
   ·cases hx:s.q.r.hi[r.i.toNat]? with
    |none=>rw[hx] at h;cases h
    |some x =>
     rw[hx] at h;cases h;exact ((kW ((hs.q.r.hi.sz x (yA hx)).fits hk)).sub (gL r.i)).mono oM oM
   ·split at h
    ·cases hx:s.q.r.rows[r.i.toNat]? with
     |none=>rw[hx] at h;cases h
     |some x =>
      rw[hx] at h;cases h;have hm:=yA hx;exact (((hs.q.r.rows.sz x hm).fl hk (hv.rp x hm)).add zero_fl).mono oM oM
    ·split at h
     ·cases hx:s.path[r.i.toNat]? with
      |none=>rw[hx] at h;cases h
      |some d =>
       rw[hx] at h;simp only at h;have b1:=(gL d.i).sub (kW ((hs.path.sz d (yA hx)).fits hk));split at h;{split at h;{cases h;exact b1.mono oM oM};{split at h;{cases h;exact (b1.scale wZ).mono oM oM};{cases h}}};{cases h}
     {cases h}
 {cases h}
theorem zXH {s:Scp}{r:Row}{p v:F}{l u:Option Rat}{k:Nat}{f:F}(hk:1<=k)(hp:p.fl k 2000)(hv:v.fl 1 1)(hl:Fits k (l.getD 0))(hu:Fits k (u.getD 0))(h:unF s r p v l u=some f):f.fl (16*k) 5000:=by
 unfold unF at h;generalize l.getD 0=lq at *
 generalize u.getD 0=uq at *
 have two:∀ {c:Prop} [Decidable c] {x:F},(if c then some x else none)=some f->x=f:=fun h=>by split at h;{exact vN h};{cases h}
 split at h;{rw[<-two h];exact hv.mono oM oM};split at h;{rw[<-two h];exact (hv.sub hp).mono oM oM};split at h;{rw[<-two h];exact (hp.add zero_fl).mono oM oM};split at h;{rw[<-two h];exact (hp.sub hv).mono oM oM};split at h;{rw[<-two h];exact (hp.scale wZ).mono oM oM};split at h;{rw[<-two h];exact (hv.scale wZ).mono oM oM};split at h;{rw[<-two h];exact (hp.sub (kW hl)).mono oM oM};split at h;{rw[<-two h];exact ((kW hu).sub hp).mono oM oM};split at h;{rw[<-two h];exact (((hp.sub (kW hl)).scale hu).sub (hv.scale (uC hu hl))).mono oM oM};{cases h}
theorem zZL {s:Scp}{r:Row}{k:Nat}{f:F}(hs:s.sz k)(hk:1<=k)(hv:s.q.vok)(h:s.fUn r=some f):f.fl (16*k) 5000:=by
 unfold Scp.fUn at h;split at h
 ·cases hx:s.q.g.us[r.i.toNat]? with
  |none=>rw[hx] at h;cases h
  |some p =>
   rw[hx] at h;have hm:=yA hx;exact zXH hk ((hs.q.g.us.sz p hm).fl hk (hv.up p hm)) (gL _) (zBX hs.lems hk _ _ _) (zBX hs.lems hk _ _ _) h
 {cases h}
theorem zW7 {s:Scp}{r:Row}{k:Nat}{f:F}(hs:s.sz k)(hk:1<=k)(h:s.fm r=some f):f.fl (16*k) 5000:=by
 unfold Scp.fm at h;split at h;{cases h}
 ·rename_i hn;have hv:s.q.valid=true:=by
   cases hx:s.q.valid with
   |true=>rfl| false=>exact absurd (.inr (.inr hx)) hn
  split at h;{exact zZM hs hk (Qry.vok_of hv) h};{exact zZL hs hk (Qry.vok_of hv) h}
def sumL (s:Scp):F->List Mult->Option F
 |acc,[]=>some acc
 |acc,m::r=>match s.fm m.row with
  |none=>none| some f=>sumL s (acc.add (f.scale m.c.q)) r
def Scp.sum (s:Scp) (l:List Mult):Int×F:=if kH none l=false then (1,F.zero) else match sumL s F.zero l with
 |none=>(12,F.zero)| some f=>(0,f)
theorem zNR {s:Scp}{k:Nat}(hs:s.sz k)(hk:8<=k):∀ {l:List Mult} {acc f:F} {a n:Nat},(∀ m,m∈l->m.c.sz (8*k))->acc.fl a n->sumL s acc l=some f->f.fl (a+25*k*l.length) (n+5000*l.length)
 |[],acc,f,a,n,_,ha,h=>by cases h;simpa using ha
 |m::r,acc,f,a,n,hm,ha,h=>by
  unfold sumL at h;cases hx:s.fm m.row with
  |none=>rw[hx] at h;cases h
  |some g =>
   rw[hx] at h;have h1:=(zW7 hs oM hx).scale ((hm m xM).fits oM);have h2:=zNR hs hk (fun m' hm'=>hm m' (xN _ hm')) ((ha.add h1).mono (show _<=a+25*k by omega) (zZ _)) h;refine h2.mono ?_ ?_;{rw[kI,qH,pD];omega};{rw[kI];omega}
theorem zSU (s:Scp)(l:List Mult)(hs:s.sz (2^20))(hl:Msz (2^23) l)(hn:l.length<=100):zE 188 [sv s,mlv l] (.tup [fv (s.sum l).2,.int .i64 (fun _=>(s.sum l).1)]):=by
 refine sF Tryz.f188 ?_;have cc:=zYQ l (hl.mono (by decide));have cf:=fun r=>zVF s r (hs.mono (by decide));have h0:kH none l=false->s.sum l=(1,F.zero):=fun h=>if_pos h;have h1:kH none l=true->sumL s F.zero l=none->s.sum l=(12,F.zero):=fun h g=>by unfold Scp.sum;rw[if_neg (by rw[h];decide),g]
 have h2:∀ f,kH none l=true->sumL s F.zero l=some f->s.sum l=(0,f):=fun f h g=>by unfold Scp.sum;rw[if_neg (by rw[h];decide),g]
 obtain⟨W,hW⟩:∃ W,W=fA (s.sum l).2:=⟨_,rfl⟩;obtain⟨e,he⟩:∃ e,e=(s.sum l).1:=⟨_,rfl⟩;rw[show fv (s.sum l).2=av W by rw[hW],<-he];have g0:kH none l=false->W=⟨[],R0⟩/\e=1:=fun h=>by rw[h0 h] at hW he;exact⟨hW.trans uS,he⟩
 have g1:kH none l=true->sumL s F.zero l=none->W=⟨[],R0⟩/\e=12:=fun h g=>by rw[h1 h g] at hW he;exact⟨hW.trans uS,he⟩
 have g2:∀ f,kH none l=true->sumL s F.zero l=some f->W=fA f/\e=0:=fun f h g=>by rw[h2 f h g] at hW he;exact⟨hW,he⟩
 clear h0 h1 h2 hW he;have hll:l.length<2^38:=hl.len;have hsn:∀ acc m r,sumL s acc (m::r)=match s.fm m.row with
  |none=>none| some f=>sumL s (acc.add (f.scale m.c.q)) r:=fun _ _ _=>rfl
 have hfl:∀ r f,s.fm r=some f->f.fl (2^24) 5000:=fun r f h=>(zW7 hs (by decide) h).mono (by decide) oM;have hms:=hl.sz;obtain⟨T,hT⟩:∃ T:F->List Mult->Option F,sumL s=T:=⟨_,rfl⟩;have hTn:∀ acc,T acc []=some acc:=fun acc=>by rw[<-hT];rfl
 rw[hT] at hsn g1 g2;generalize kH none l=cn at *
 clear hT hs hl;cbv;refine tE [1,2,4,11] [2,4] rfl rfl okA (cc) rfl ?_;cbv;refine zP (fun e1=>?_) (fun e1=>?_)
 rotate_left
 ·cbv;obtain⟨q1,q2⟩:=g0 e1;subst q1 q2
  (refine rC ?_;cbv)
  exact okA
 have g1':=g1 e1;have g2':=fun f=>g2 f e1;clear g0 g1 g2 cc;cbv;refine z3 (σ:=Nat×F) (fun st=>⟨[(2,.ptr 2 0),(4,.ptr 4 0),(6,.ptr 6 0),(15,mlv l),(16,.int .i64 (fun _=>(l.length:Int))),(17,.int .i64 (fun _=>(st.1:Int)))],[(2,.box (sc s)),(4,.box [.nil,.ff,.nil,.nil]),(6,.box [tsv (fA st.2).ts,.bool (fun _=>(fA st.2).c.neg),nat (fA st.2).c.num,nat (fA st.2).c.den])]⟩)
  (fun st=>st.1<=l.length/\T F.zero l=T st.2 (l.drop st.1)/\st.2.fl (1+2^25*st.1) (5000*st.1)) (fun st=>l.length-st.1)
  (0,F.zero) ⟨om,rfl,zero_fl⟩ (.le ?_ ?_ rfl) ?_
 {cbv;exact⟨lR,lR,lR,lR,zC (by (try dsimp only [zF] at *);rw[zA]),lR,trivial⟩};{show leO _ [(2,.box (sc s)),(4,.box [.nil,.ff,.nil,.nil]),(6,.box [tsv (fA F.zero).ts,.bool (fun _=>(fA F.zero).c.neg),nat (fA F.zero).c.num,nat (fA F.zero).c.den])];rw[uS];cbv;exact okA};intro st hst;obtain⟨h1,hv,ha⟩:=hst;generalize st.1=i at *
 generalize st.2=acc at *
 obtain⟨V,hV⟩:∃ V,fA acc=V:=⟨_,rfl⟩;simp only[hV];cbv;refine zG (fun h5=>?_) (fun h5=>?_)
 ·(have hlt:i<l.length:=by (try dsimp only [zF] at *);omega);obtain⟨m,hm⟩:=zT hlt
  have hmem:=yA hm;rw[zY hm,hsn] at hv;have cfm:=cf m.row;have hmc:=hms m hmem;have hxf:∀ f,s.fm m.row=some f->f.fl (2^24) 5000:=fun f h=>hfl m.row f h;generalize hx:s.fm m.row=o at *
  have idx:∀ {K:List PV->Prop},K (mc m)->IdxOk 7 (fun _=>enc mc l) (fun _=>(i:Int)) K:=fun hK=>xU (l:=l) i rfl hlt vP wA (fun m' hm'=>by rw[hm] at hm';cases hm';exact hK);clear cf;cases o with
  |none =>
   (have hv':T F.zero l=none:=hv;obtain⟨q1,q2⟩:=g1' hv';have cfm':zE 230 [sv s,rwv m.row] (.tup [av ⟨[],R0⟩,.bool (fun _=>false)]):=by have h:zE 230 [sv s,rwv m.row] (.tup [av (fA F.zero),.bool (fun _=>false)]):=cfm;rw[uS] at h;exact h);clear cfm hv hv' g1' g2';subst q1 q2;cbv;refine idx ?_;cbv;refine tE [2,4,6,8,15,16,17,22,24] [2,4,6,8] rfl rfl okA (cfm') rfl ?_;cbv;refine zP (fun e=>absurd e (by decide)) (fun _=>?_);cbv
   (refine rC ?_;cbv)
   exact okA
  |some f =>
   have hv':T F.zero l=T (acc.add (f.scale m.c.q)) (l.drop (i+1)):=hv;have hf:=hxf f rfl;have b1:=hf.scale (hmc.fits (by decide));have b2:=ha.add b1;have cs:=tX (fA f) m.c ((hf.fit (by decide)).fA.mono (by decide)) (hmc.mono (by decide));rw[kY] at cs;have ca:=zMZ (fA acc) (fA (f.scale m.c.q)) ((ha.fit oM).fA.mono oM) ((b1.fit (by decide)).fA.mono (by decide));rw[kY,kY] at ca;have hacc:(acc.add (f.scale m.c.q)).fl (1+2^25*(i+1)) (5000*(i+1)):=b2.mono oM oM;have cfm':zE 230 [sv s,rwv m.row] (.tup [av (fA f),.bool (fun _=>true)]):=cfm;clear cfm hv hxf b1 b2 ha;dsimp only [fv] at cs ca;rw[hV] at ca;generalize hA':acc.add (f.scale m.c.q)=acc' at *
   obtain⟨V',hV'⟩:∃ V',fA acc'=V':=⟨_,rfl⟩;rw[hV'] at ca;generalize fA (f.scale m.c.q)=X at *
   generalize fA f=Y at *
   cbv;refine idx ?_;cbv;refine tE [2,4,6,8,15,16,17,22,24] [2,4,6,8] rfl rfl okA (cfm') rfl ?_;cbv;refine zP (fun _=>?_) (fun e=>absurd e (by decide));cbv;refine zEK 6 [2,4,6,8,9,15,16,17] [2,4,6,8,9] rfl (by cbv) ?_;cbv;refine dA cs ?_;cbv;refine dA ca ?_;cbv;refine⟨zD om om,(i+1,acc'),⟨om,hv',hacc⟩,om,.le ?_ ?_ rfl⟩;{cbv;exact⟨lR,lR,lR,lR,lR,zC om,trivial⟩};{show leO _ [(2,.box (sc s)),(4,.box [.nil,.ff,.nil,.nil]),(6,.box [tsv (fA acc').ts,.bool (fun _=>(fA acc').c.neg),nat (fA acc').c.num,nat (fA acc').c.den])];rw[hV'];cbv;exact okA}
 ·(have hi:i=l.length:=by (try dsimp only [zF] at *);omega);rw[hi,w4,hTn] at hv
  obtain⟨q1,q2⟩:=g2' acc hv;rw[hV] at q1;clear g1' g2' hv;subst q1 q2;cbv
  (refine rC ?_;cbv)
  exact okA
theorem Scp.sum_fl {s:Scp}{l:List Mult}(hs:s.sz (2^20))(hl:Msz (2^23) l)(hn:l.length<=100):(s.sum l).2.fl (2^32) 500000:=by
 unfold Scp.sum;split;{exact zero_fl.mono (by decide) oM}
 ·cases hx:sumL s F.zero l with
  |none=>exact zero_fl.mono (by decide) oM| some f=>exact (zNR hs (by decide) (fun m hm=>(hl.sz m hm).mono (by decide)) zero_fl hx).mono oM oM
def Scp.proves (s:Scp) (f:A) (l:List Mult):Bool:=decide ((s.sum l).1=0)&&(f.valid 9223372036854775807&&(decide ((f.f.sub (s.sum l).2).ts.length=0)&&decide (0<=z4 (f.f.sub (s.sum l).2).c)))
theorem zFY (s:Scp)(f:A)(l:List Mult)(hs:s.sz (2^20))(hf:f.sz (2^32))(hl:Msz (2^23) l)(hn:l.length<=100):zE 139 [sv s,av f,mlv l] (.bool (fun _=>s.proves f l)):=by
 refine sF Tryz.f139 ?_;have cs:=zSU s l hs hl hn;have cv:=tW f 9223372036854775807 (hf.mono (by decide));have fl:=Scp.sum_fl hs hl hn;have cb:=aP f (fA (s.sum l).2) (hf.mono (by decide)) ((fl.fit (by decide)).fA.mono (by decide));rw[kY] at cb;have ff:=(hf.fit (by decide):f.f.fit (2^32));have fr:Fits (2^34) (f.f.sub (s.sum l).2).c:=(qT ff.c (y6 fl.c wZ)).mono (by decide);have cg:=s86 (zJ (f.f.sub (s.sum l).2).c) (xP (zU fr).n (by decide));rw[z6] at cg;have hr:s.proves f l=(decide ((s.sum l).1=0)&&(f.valid 9223372036854775807&&(decide ((tR (f.f.sub (s.sum l).2).ts).length=0)&&decide (0<=z4 (f.f.sub (s.sum l).2).c)))):=by rw[vI];rfl
 rw[hr];dsimp only [fv] at cs cb;have e1:fA (f.f.sub (s.sum l).2)=⟨tR (f.f.sub (s.sum l).2).ts,zJ (f.f.sub (s.sum l).2).c⟩:=rfl;rw[e1] at cb;clear hr e1 fl ff fr hf hs hl;generalize z4 (f.f.sub (s.sum l).2).c=sg at *
 generalize zJ (f.f.sub (s.sum l).2).c=C at *
 generalize tR (f.f.sub (s.sum l).2).ts=T at *
 generalize fA (s.sum l).2=V at *
 generalize (s.sum l).1=e at *
 generalize f.valid 9223372036854775807=vd at *
 cbv;refine tE [2,3,4,11,12] [3,4] rfl rfl okA (cs) rfl ?_;cbv;refine zQ (fun h=>?_) (fun h=>?_)
 ·cbv;refine cA cv ?_;cbv;refine zP (fun h2=>?_) (fun h2=>?_)
  ·cbv;refine tE [23,24] [] rfl rfl okA (cb) rfl ?_;cbv;refine zQ (fun h3=>?_) (fun h3=>?_)
   ·cbv;refine cA cg ?_;cbv
    (refine rC ?_;cbv)
    refine zV ?_;rw[decide_eq_true h,h2,decide_eq_true (p:=T.length=0) (by rw[zA] at h3;(try dsimp only [zF] at *);omega)];simp
   ·cbv
    (refine rC ?_;cbv)
    refine zM ?_;rw[decide_eq_false (p:=T.length=0) (by rw[zA] at h3;(try dsimp only [zF] at *);omega)];simp
  ·cbv
   (refine rC ?_;cbv)
   exact zM (by rw[h2];simp)
 ·cbv
  (refine rC ?_;cbv)
  exact zM (by rw[decide_eq_false h];rfl)
def Scp.refutes (s:Scp) (l:List Mult):Bool:=decide ((s.sum l).1=0)&&(decide ((s.sum l).2.ts.length=0)&&decide (z4 (s.sum l).2.c<0))
theorem zLO (s:Scp)(l:List Mult)(hs:s.sz (2^20))(hl:Msz (2^23) l)(hn:l.length<=100):zE 138 [sv s,mlv l] (.bool (fun _=>s.refutes l)):=by
 refine sF Tryz.f138 ?_;have cs:=zSU s l hs hl hn;have fl:=Scp.sum_fl hs hl hn;have cg:=s86 (zJ (s.sum l).2.c) (xP (zU fl.c).n (by decide));rw[z6] at cg;have hr:s.refutes l=(decide ((s.sum l).1=0)&&(decide ((tR (s.sum l).2.ts).length=0)&&decide (z4 (s.sum l).2.c<0))):=by rw[vI];rfl
 rw[hr];dsimp only [fv] at cs;have e1:fA (s.sum l).2=⟨tR (s.sum l).2.ts,zJ (s.sum l).2.c⟩:=rfl;rw[e1] at cs;clear hr e1 fl hs hl;generalize z4 (s.sum l).2.c=sg at *
 generalize zJ (s.sum l).2.c=C at *
 generalize tR (s.sum l).2.ts=T at *
 generalize (s.sum l).1=e at *
 cbv;refine tE [8,9] [] rfl rfl okA (cs) rfl ?_;cbv;refine zQ (fun h=>?_) (fun h=>?_)
 ·cbv;refine zQ (fun h3=>?_) (fun h3=>?_)
  ·cbv;refine cA cg ?_;cbv
   (refine rC ?_;cbv)
   refine zV ?_;rw[decide_eq_true h,decide_eq_true (p:=T.length=0) (by rw[zA] at h3;(try dsimp only [zF] at *);omega)];simp
  ·cbv
   (refine rC ?_;cbv)
   refine zM ?_;rw[decide_eq_false (p:=T.length=0) (by rw[zA] at h3;(try dsimp only [zF] at *);omega)];simp
 ·cbv
  (refine rC ?_;cbv)
  exact zM (by rw[decide_eq_false h];rfl)
def Lem.form (m:Lem) (p:F):F:=if m.up=true then (p.sub (F.num m.v.q)).scale (-1) else p.sub (F.num m.v.q)
def Scp.lemB (s:Scp) (m:Lem):Bool:=decide (0<=m.u/\m.u<s.q.g.us.length)&&(m.v.ok&&(s.q.valid&&match s.q.g.us[m.u.toNat]? with
 |some p=>s.proves (fA (m.form p.f)) m.pf| none=>false))
theorem zQ8 (s:Scp)(m:Lem)(hs:s.sz (2^20))(hm:m.v.sz (2^20))(hl:Msz (2^20) m.pf)(hn:m.pf.length<=100):zE 137 [sv s,lv' m] (.bool (fun _=>s.lemB m)):=by
 refine sF Tryz.f137 ?_;have cvd:=s103 m.v (hm.mono (by decide));have crv:=tU s.q (hs.q.mono (by decide));have hno:¬(0<=m.u/\m.u<s.q.g.us.length)->s.lemB m=false:=fun h=>by unfold Scp.lemB;rw[decide_eq_false h];rfl
 have hno2:m.v.ok=false->s.lemB m=false:=fun h=>by unfold Scp.lemB;rw[h];simp
 have hno3:s.q.valid=false->s.lemB m=false:=fun h=>by unfold Scp.lemB;rw[h];simp
 have hyes:∀ p,0<=m.u->m.u<s.q.g.us.length->m.v.ok=true->s.q.valid=true->s.q.g.us[m.u.toNat]?=some p->s.lemB m=s.proves (fA (m.form p.f)) m.pf:=fun p h1 h2 h3 h4 h5=>by unfold Scp.lemB;rw[decide_eq_true ⟨h1,h2⟩,h3,h4,h5];rfl
 have hcs:∀ p,p∈s.q.g.us->zE 185 [av p,av ⟨[],m.v⟩] (fv (p.f.sub (F.num m.v.q))):=fun p hp =>
  aP p ⟨[],m.v⟩ ((hs.q.g.us.sz p hp).mono (by decide)) ⟨⟨by show 0<2^38;decide,fun _ h=>absurd h (by simp)⟩,hm.mono (by decide)⟩
 have fsub:∀ p,p∈s.q.g.us->(p.f.sub (F.num m.v.q)).fit (2^22):=fun p hp =>
  (zHJ ((hs.q.g.us.sz p hp).fit (by decide)) (dY (hm.fits (by decide))) (by show (tq p.ts).length+0<2^38;unfold tq;rw[xA];exact (hs.q.g.us.sz p hp).t.len)).mono (by decide)
 have hcm:∀ p,p∈s.q.g.us->zE 186 [av (fA (p.f.sub (F.num m.v.q))),rv (zJ ((-1:Int):Rat))] (fv ((p.f.sub (F.num m.v.q)).scale (-1))):=fun p hp=>by have:=tX (fA (p.f.sub (F.num m.v.q))) (zJ ((-1:Int):Rat)) ((fsub p hp).fA.mono (by decide)) ((oB (-1) (by decide) (by decide)).mono (by decide));rw[kY,z6] at this;exact this
 have hcp:∀ p,p∈s.q.g.us->zE 139 [sv s,av (fA (m.form p.f)),mlv m.pf] (.bool (fun _=>s.proves (fA (m.form p.f)) m.pf)):=fun p hp =>
  zFY s (fA (m.form p.f)) m.pf hs (by
   have fs:=fsub p hp;unfold Lem.form;split;{exact ((nD fs wZ (by decide)).fA).mono (by decide)}
   ·exact fs.fA.mono (by decide)) (hl.mono (by decide)) hn
 have c1:=s104 (-1) (by decide) (by decide);have hul:=hs.q.g.us.len;generalize hres:s.lemB m=res at *
 generalize m.v.ok=ok at *
 generalize hvd:s.q.valid=vd at *
 clear hres hs hm hl fsub;cbv;refine zQ (fun e1=>?_) (fun e1=>?_)
 ·cbv
  (refine rC ?_;cbv)
  exact zM (hno om)
 cbv;refine zQ (fun e2=>?_) (fun e2=>?_)
 ·cbv
  (refine rC ?_;cbv)
  exact zM (hno (by rw[zA] at e2;(try dsimp only [zF] at *);omega))
 rw[zA] at e2;cbv;refine tE [2,3,4,13,19,21] [2,3] rfl rfl okA (cvd) rfl ?_;cbv;refine z7 (fun e3=>?_) (fun e3=>?_)
 rotate_left
 ·cbv
  (refine rC ?_;cbv)
  exact zM (hno2 e3)
 cbv;refine tE [2,3,4,19,25,27] [2,3] rfl rfl okA (crv) rfl ?_;cbv;refine zP (fun e4=>?_) (fun e4=>?_)
 rotate_left
 ·cbv
  (refine rC ?_;cbv)
  exact zM (hno3 e4)
 obtain⟨p,hp⟩:∃ p,s.q.g.us[m.u.toNat]?=some p:=zT om;have hmem:=yA hp;have hr:=hyes p om om e3 e4 hp;have cs:=hcs p hmem;have cm:=hcm p hmem;have cp:=hcp p hmem;rw[<-hr] at cp;have idx:∀ {K:List PV->Prop},K (ac p)->IdxOk 4 (fun _=>enc ac s.q.g.us) (fun _=>m.u) K:=fun hK=>xU (l:=s.q.g.us) m.u.toNat om om gK bK (fun m' hm'=>by rw[hp] at hm';cases hm';exact hK);clear hcs hcm hcp hyes hno hno2 hno3 hr cvd crv;dsimp only [fv] at cs cm;generalize zJ ((-1:Int):Rat)=o at *
 cases hup:m.up with
 |true =>
  have ef:m.form p.f=(p.f.sub (F.num m.v.q)).scale (-1):=if_pos hup;rw[ef] at cp;generalize fA ((p.f.sub (F.num m.v.q)).scale (-1))=Y at *
  generalize fA (p.f.sub (F.num m.v.q))=X at *
  clear ef;cbv;refine zEL 13 [2,3,4] [2,3] rfl (by cbv) (by cbv) ?_;cbv;refine idx ?_;cbv;refine x9 okA cs rfl ?_;cbv;refine zP (fun _=>?_) (fun h=>absurd h (by decide));cbv;refine zEK 3 [2,3,4,5] [2,3,5] rfl (by cbv) ?_;cbv;refine dA c1 ?_;cbv;refine dA cm ?_;cbv;refine cA cp ?_;cbv
  (refine rC ?_;cbv)
  exact lR
 |false =>
  have ef:m.form p.f=p.f.sub (F.num m.v.q):=if_neg (by rw[hup];decide);rw[ef] at cp;generalize fA (p.f.sub (F.num m.v.q))=X at *
  clear ef;cbv;refine zEL 13 [2,3,4] [2,3] rfl (by cbv) (by cbv) ?_;cbv;refine idx ?_;cbv;refine x9 okA cs rfl ?_;cbv;refine zP (fun h=>absurd h (by decide)) (fun _=>?_);cbv;refine cA cp ?_;cbv
  (refine rC ?_;cbv)
  exact lR
theorem zYO (s:Scp)(d:Dec)(hq:s.q.sz (2^34))(hd:d.x.sz (2^36)):zE 136 [.agg (dc d),.dptr (sc s) 0] (.bool (fun _=>!(s.q.valid&&d.fits s.q))):=by
 refine sF Tryz.f136 ?_;have cf:=zNZ s.q d hq hd;generalize (s.q.valid&&d.fits s.q)=b at *
 cbv;refine cA cf ?_;cbv
 (refine rC ?_;cbv)
 exact vY rfl
def Scp.pre (s:Scp) (i:Nat):Scp:=⟨s.q,s.path,s.lems.take i⟩
def rU (s:Scp):Nat->List Lem->Bool
 |_,[]=>true| i,m::r=>(s.pre i).lemB m&&rU s (i+1) r
def Scp.scopeB (s:Scp):Bool:=s.q.valid&&((s.path.all fun d=>s.q.valid&&d.fits s.q)&&rU s 0 s.lems)
theorem Scp.pre_sz {s:Scp}{k:Nat}(h:s.sz k)(i:Nat):(s.pre i).sz k :=
 ⟨h.q,h.path,⟨by show (s.lems.take i).length<_;rw[j5];have:=h.lems.len;omega,fun a ha=>h.lems.sz a (mZ ha),fun a ha=>h.lems.pf a (mZ ha)⟩⟩
theorem zJU (s:Scp)(hs:s.sz (2^20))(hpf:∀ m,m∈s.lems->m.pf.length<=100):zE 64 [sv s] (.bool (fun _=>s.scopeB)):=by
 refine sF Tryz.f64 ?_;have crv:=tU s.q (hs.q.mono (by decide));have cha:=zWU (fun d=>!(s.q.valid&&d.fits s.q)) s.path (bC hs.path.len (by decide)) 136 [.dptr (sc s) 0] (fun d hd=>zYO s d (hs.q.mono (by decide)) ((hs.path.sz d hd).mono (by decide)));have hcl:∀ i m,m∈s.lems->zE 137 [sv (s.pre i),lv' m] (.bool (fun _=>(s.pre i).lemB m)):=fun i m hm =>
  zQ8 (s.pre i) m (Scp.pre_sz hs i) (hs.lems.sz m hm) (hs.lems.pf m hm) (hpf m hm)
 have hr:s.scopeB=(s.q.valid&&(!(s.path.any fun d=>!(s.q.valid&&d.fits s.q))&&rU s 0 s.lems)):=by unfold Scp.scopeB;rw[zID]
 have hll:=hs.lems.len;have hcons:∀ i m r,rU s i (m::r)=((s.pre i).lemB m&&rU s (i+1) r):=fun _ _ _=>rfl;obtain⟨LF,hLF⟩:∃ LF,rU s=LF:=⟨_,rfl⟩;have hnil:∀ i,LF i []=true:=fun i=>by rw[<-hLF];rfl
 rw[hLF] at hr hcons;generalize s.scopeB=res at *
 generalize (s.path.any fun d=>!(s.q.valid&&d.fits s.q))=bad at *
 generalize s.q.valid=vd at *
 have hlm:∀ i m,zE 137 [sv (s.pre i),lv' m] (.bool (fun _=>(s.pre i).lemB m))->zE 137 [sv ⟨s.q,s.path,s.lems.take i⟩,lv' m] (.bool (fun _=>(s.pre i).lemB m)):=fun _ _ h=>h;clear hs hpf hLF;cbv;refine tE [1,6] [1] rfl rfl okA (crv) rfl ?_;cbv;refine z7 (fun e1=>?_) (fun e1=>?_)
 rotate_left
 ·cbv
  (refine rC ?_;cbv)
  exact zM (by rw[hr,e1];rfl)
 rw[e1,yU] at hr;cbv;refine kQ (.trans (Wk.sel _ [1,9,11,12] [1] rfl) (.frz 1 rfl rfl (by repeat' first|exact trivial|apply And.intro) (by repeat' first|exact trivial|apply And.intro))) rfl (by exact⟨lR,⟨rfl,lR,trivial⟩,trivial⟩) cha rfl ?_;cbv;refine zP (fun e2=>?_) (fun e2=>?_)
 ·cbv
  (refine rC ?_;cbv)
  exact zM (by rw[hr,e2];rfl)
 rw[e2,Bool.not_false,yU] at hr;clear cha crv;cbv;refine z3 (σ:=Nat) (fun i=>⟨[(1,.dptr (sc s) 0),(16,llv s.lems),(17,.int .i64 (fun _=>(s.lems.length:Int))),(18,.int .i64 (fun _=>(i:Int)))],[]⟩)
  (fun i=>i<=s.lems.length/\res=LF i (s.lems.drop i)) (fun i=>s.lems.length-i) 0 ⟨om,hr⟩ (.le ?_ ?_ rfl) ?_
 {cbv;exact⟨lR,lR,zC (by (try dsimp only [zF] at *);rw[zA]),lR,trivial⟩};{cbv};clear hr;intro i hi;obtain⟨h1,h2⟩:=hi;cbv;refine zG (fun h5=>?_) (fun h5=>?_)
 ·(have hlt:i<s.lems.length:=by (try dsimp only [zF] at *);omega);obtain⟨m,hm⟩:=zT hlt
  have hmem:=yA hm;rw[zY hm,hcons] at h2;have cl:=hlm i m (hcl i m hmem);generalize (s.pre i).lemB m=b at *
  have idx:∀ {K:List PV->Prop},K (lc m)->IdxOk 6 (fun _=>enc lc s.lems) (fun _=>(i:Int)) K:=fun hK=>xU (l:=s.lems) i rfl hlt xX wJ (fun m' hm'=>by rw[hm] at hm';cases hm';exact hK);clear hcl hlm hcons;cbv;refine idx ?_;cbv;refine zN 12 (by cbv) ?_;cbv;refine⟨u9 om om (by rw[zA];(try dsimp only [zF] at *);omega),w6 wJ _,?_⟩;refine x9 (by exact⟨⟨lR,lR,lR,lR,lR,lR,lR,lR,lR,lR,lR,zR (by simp[enc,zHD]),trivial⟩,okA,trivial⟩) cl rfl ?_;cbv;refine zP (fun e3=>?_) (fun e3=>?_);{rw[e3,yU] at h2;cbv;refine⟨zD om om,i+1,⟨om,h2⟩,om,.le ?_ ?_ rfl⟩;{cbv;exact⟨lR,lR,lR,zC om,trivial⟩};{cbv}}
  ·cbv
   (refine rC ?_;cbv)
   exact zM (by rw[h2,e3];rfl)
 ·(have hi':i=s.lems.length:=by (try dsimp only [zF] at *);omega);rw[hi',w4,hnil] at h2
  cbv
  (refine rC ?_;cbv)
  exact yN h2
theorem fJ:ty 43=.sli 7 88 [.int .i64 (fun _=>0),.int .i64 (fun _=>0),.int .i64 (fun _=>0),.int .i64 (fun _=>0),.ff,.nil,.nil]:=by cbv
theorem mU {t base x d ps K n b z xs}(ht:ty t=.sli n b z){m o len els}(hb:ev (zB ps.tmps) base=.osl m n o len)(ho:yG ps.objs m=some (.arr n els))(h0:els ()=[])(ho0:o ()=0)(hl:len ()=0)(hx:ev (zB ps.tmps) x=.sl xs)(hw:Wid n xs) (hr:Room (fun _=>((xs ()).length:Nat)) b) (hf:yH d ⟨wV (scr m) ps.tmps,y4 (scr m) (xO ps.objs m)⟩=true) (hK:K ⟨v7 (wV (scr m) ps.tmps) d (.osl d n (fun _=>0) (fun _=>(xs ()).length)),y4 (scr m) (xO ps.objs m)++[(d,.arr n xs)]⟩):AppK t base x (some d) ps K:=by
 have e1:(fun _:Unit=>(els ()).length+(xs ()).length)=fun _=>(xs ()).length:=funext fun _=>by simp[h0]
 have e2:(fun _:Unit=>els ()++xs ())=xs:=funext fun _=>by simp[h0]
 exact wE ht hb ho ho0 (by rw[hl,h0];rfl) hx hw (by simpa[h0] using hr) hf (by rw[e1,e2];exact hK)
abbrev mao (n:Nat) (l:List Mult):List (Nat×Obj'):=[(n,.arr 7 (fun _=>enc mc l))]
theorem sClM (l:List Mult)(hl:l.length<2^38):Sound 147 [mlv l] [] [] (.osl 100 7 (fun _=>0) (fun _=>l.length)) [] (mao 100 l):=by
 refine sF Tryz.f147 ?_;cbv;refine⟨fun b hb=>?_⟩;cbv;refine zP (fun h=>?_) (fun h=>?_)
 ·(have hb':=hb h;have hl0:l=[]:=by have:=congrArg List.length hb';rw[zA] at this;exact kR this);cbv;subst hl0;refine tC (ps':=⟨[(2,.osl 100 7 (fun _=>0) (fun _=>0))],[(100,.arr 7 (fun _=>[]))]⟩) 100 (.trans (.le (ps':=⟨[(2,.nil)],[]⟩) ?_ trivial rfl) (.adoptT (ps:=⟨[(2,.nil)],[]⟩) 100 7 2 rfl rfl)) rfl rfl rfl ?_;{cbv;exact okA};{cbv;exact yC rfl rfl}
 {cbv;refine wE fJ rfl rfl rfl rfl rfl (w6 wA _) (yD om (by simp only[sZ,zA];(try dsimp only [zF] at *);omega)) rfl ?_;cbv;refine tC (ps':=⟨[(2,.osl 7 7 (fun _=>0) (fun _=>l.length))],[(7,.arr 7 (fun _=>enc mc l))]⟩) 7 (.le ?_ ?_ rfl) rfl rfl rfl ?_;{cbv;exact⟨yC rfl (by simp[zA]),trivial⟩};{cbv;exact⟨zI rfl,trivial⟩};{cbv;exact lR}}
theorem zVC {α:Type}(p b:List α)(x y:α):((p++y::x::b).set (p.length+1) y).set p.length x=p++x::y::b:=by rw[zJG _ _ oM,zJG _ _ oM];simp[show p.length+1-p.length=1 by omega]
theorem nY {α:Type}{p:α->List PV}{n:Nat}{els:List (List D)}{i:Nat}{K:List PV->Prop}(l:List α)(he:els=enc p l)(j:Nat)(hk:i=j)(hj:j<l.length)(hf:∀ a,yR qW (p a)=true)(hn:∀ a,(p a).length=n) (hK:∀ a,l[j]?=some a->K (p a)):ElOk n (fun _=>els) (fun _=>i) K:=by subst he;exact j4 j hk hj hf hn hK
abbrev fld (s : String) (o b : Nat) : Field := { name := s, type := 3, offset := o, embedded := false, tag := "", pkgPath := "", byteOffset := b }
theorem zVL:Pg.underlying 107=some (.struct (Pg.fieldsOf 107)):=by rw[uV];kernel_rfl
theorem zRB : (Pg.fieldsOf 107).toList = [fld "Kind" 0 0, fld "Index" 1 8, fld "Lo" 2 16, fld "Hi" 3 24] := by rw [uV]; kernel_rfl
theorem zRA:Pg.stoodInHeld 107=false:=by rw[uV];kernel_rfl
theorem zPF:Pg.eqGuardType Pg.depth 107=false:=by rw[uV];kernel_rfl
theorem rY:Pg.plainKey 3=true:=by rw[uV];kernel_rfl
theorem zOL:Pg.underlying 3=some (.int .i64):=by rw[uV];kernel_rfl
abbrev rowA (a:Row):Array Value:=#[.int .i64 a.k,.int .i64 a.i,.int .i64 a.lo,.int .i64 a.hi]
theorem zPG (a b:Row)(w:World):(Op.equalIn 10000 107 (.agg (rowA a)) (.agg (rowA b))).run Pg w=.ok (decide (a=b)) w:=by
 rw[show (10000:Nat)=9999+1 from rfl,run_equalIn_agg w 9999 _ _ _ zVL zRA,zRB];have p0:∀ (c:Row),(part 3 (rowA c) 0).run Pg w=.ok (.int .i64 c.k) w:=fun c=>run_part_plain _ rY rfl;have p1:∀ (c:Row),(part 3 (rowA c) 1).run Pg w=.ok (.int .i64 c.i) w:=fun c=>run_part_plain _ rY rfl;have p2:∀ (c:Row),(part 3 (rowA c) 2).run Pg w=.ok (.int .i64 c.lo) w:=fun c=>run_part_plain _ rY rfl;have p3:∀ (c:Row),(part 3 (rowA c) 3).run Pg w=.ok (.int .i64 c.hi) w:=fun c=>run_part_plain _ rY rfl;have q:∀ (x y:Int),(Op.equalIn 9999 3 (.int .i64 x) (.int .i64 y)).run Pg w=.ok (x == y) w:=fun x y=>run_equalIn_int w 9998 _ .i64 .i64 x y zOL;have e:decide (a=b)=((a.k == b.k)&&((a.i == b.i)&&((a.lo == b.lo)&&(a.hi == b.hi)))):=by obtain⟨a1,a2,a3,a4⟩:=a;obtain⟨b1,b2,b3,b4⟩:=b;rw[bQ];simp
 rw[e];simp only[Op.eqFields,Sem.run_bind,Sem.run_ite,p0,p1,p2,p3,q,Result.andThen_ok,Sem.run_pure];generalize (a.k == b.k)=x0;generalize (a.i == b.i)=x1;generalize (a.lo == b.lo)=x2;generalize (a.hi == b.hi)=x3;cases x0 <;> cases x1 <;> cases x2 <;> cases x3 <;> rfl
theorem zV3 {x y:Operand}{a b:Row}{K:PV->Prop}(hK:K (.bool (fun _=>decide (a=b)))):EqS .eql 107 x y [.i fun _=>a.k,.i fun _=>a.i,.i fun _=>a.lo,.i fun _=>a.hi] [.i fun _=>b.k,.i fun _=>b.i,.i fun _=>b.lo,.i fun _=>b.hi] K:=by refine⟨⟨decide (a=b),fun w=>?_,hK⟩⟩;show (do eqGuard .eql 107 x y (.agg (rowA a)) (.agg (rowA b));binOp .eql 107 (.agg (rowA a)) (.agg (rowA b)):Sem Value).run Pg w=_;simp only[Sem.run_bind,run_eqGuard_agg w .eql _ x y _ _ zPF,Result.andThen_ok,run_eql_struct,zPG]
def mR (l:List (Row×Rat)):List Mult:=l.map fun t=>⟨t.1,zJ t.2⟩
theorem j1 (l:List (Row×Rat)):(mR l).length=l.length:=by simp[mR]
theorem zBW (l m:List (Row×Rat)):mR (l++m)=mR l++mR m:=by simp[mR]
end Go.Proofs.YtaeaffgjdcigoaaGreat
