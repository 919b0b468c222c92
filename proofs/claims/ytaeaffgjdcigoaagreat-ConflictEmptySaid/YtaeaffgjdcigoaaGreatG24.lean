/- A part of the proof: RwE, DvB, DvC, SoA, RoE, CoA, RdA. -/
import Derived.Test.YtaeaffgjdcigoaaGreatG23
import Derived.Test.YtaeaffgjdcigoaaGreatG21
import Derived.Test.YtaeaffgjdcigoaaGreatG20
import Derived.Laws.StructEq
import Derived.ChangeKeysEq
set_option linter.all false
namespace Go.Proofs.YtaeaffgjdcigoaaGreat
open Go
set_option maxRecDepth 100000
set_option maxHeartbeats 2000000
theorem Co {vars:Int}:∀ {l:List (Int×R)} {p:Int},vT vars p l=true->l.length=0\/(l.length:Int)<=vars-1-p
 |[],_,_=>.inl rfl
 |t::r,p,h=>by rw[YV] at h;simp only[yK,decide_eq_true_eq] at h;have:=Co h.2;simp only[bK];omega
theorem nY {a:A}{vars:Int}(h:a.valid vars=true)(hv:0<=vars):(a.ts.length:Int)<=vars:=by unfold A.valid at h;simp only[yK] at h;have:=Co h.1;omega
theorem U5:∀ {l:List A} {k:Int} {a:A},vU k l=true->a∈l->∃ j:Nat,j<l.length/\a.valid (k+j)=true
 |f::r,k,a,h,ha=>by rw[GD,yK] at h;rcases yI.1 ha with rfl|ha;{exact⟨0,by simp,by simpa using h.1⟩};{obtain⟨j,h1,h2⟩:=U5 h.2 ha;exact⟨j+1,by simpa using h1,by rw[show k+((j+1:Nat):Int)=k+1+j by omega];exact h2⟩}
structure Qry.vok (q:Qry):Prop where
 n1:1<=q.g.n
 n2:q.g.n<=256
 ul:q.g.us.length<=1024
 ol:q.g.os.length<=256
 rl:q.r.rows.length<=256
 lo:(q.r.lo.length:Int)=q.g.n
 hi:(q.r.hi.length:Int)=q.g.n
 up:∀ a,a∈q.g.us->a.ts.length<=2000
 op:∀ a,a∈q.g.os->a.ts.length<=2000
 rp:∀ a,a∈q.r.rows->a.ts.length<=2000
theorem Qry.vok_of {q:Qry}(h:q.valid=true):q.vok:=by unfold Qry.valid Grp.valid Reg.valid at h;simp only[yK,decide_eq_true_eq,gG] at h;obtain⟨⟨⟨⟨h1,h2⟩,h3⟩,⟨h4,h5⟩,h6⟩,h7⟩:=h;refine⟨h1.1,h1.2.1,h1.2.2.1,h1.2.2.2.2,h4.2.2.2.2,h4.2.2.1,h4.2.2.2.1,λa ha=>?_,λa ha=>?_,λa ha=>?_⟩;{obtain⟨j,g1,g2⟩:=U5 h2 ha;have:=nY g2 oM;omega};{have:=nY (h3 a ha) (by unfold Grp.vars;omega);unfold Grp.vars at this;omega};{have:=nY (h6 a ha) oM;omega}
def Scp.fm (s:Scp) (r:Row):Option F :=
 if r.k<1\/14<=r.k\/s.q.valid=false then none else if r.k<=4 then s.fIn r else s.fUn r
theorem bI {k:Int}{len:Nat}{K:Nat->Prop}(j:Nat)(hk:k=(j:Int))(hj:j<len)(hK:K j):AtOk (λ_=>k) len K:=⟨⟨j,hk,hj,hK⟩⟩
theorem Rd (s:Scp)(r:Row)(hs:s.sz (2^28)):zD 230 [sv s,rwv r] (.tup [fv ((s.fm r).getD F.zero),bV ((s.fm r).isSome)]):=by
 refine sF Tryz.f230 ?_;have cv:=mW s.q (hs.q.mono (by decide));have cin:=NX s r hs;have cun:=λ(h:s.q.valid=true)=>NV s r hs (Qry.vok_of h).n1 (Qry.vok_of h).n2 (Qry.vok_of h).ul (Qry.vok_of h).up;have f0:r.k<1->s.fm r=none:=λh=>if_pos (.inl h);have f1:14<=r.k->s.fm r=none:=λh=>if_pos (.inr (.inl h));have f2:s.q.valid=false->s.fm r=none:=λh=>if_pos (.inr (.inr h));have f3:s.q.valid=true->1<=r.k->r.k<=4->s.fm r=s.fIn r:=λh h1 h2=>by unfold Scp.fm;rw[if_neg (by rw[h];simp;omega),if_pos h2]
 have f4:s.q.valid=true->5<=r.k->r.k<14->s.fm r=s.fUn r:=λh h1 h2=>by unfold Scp.fm;rw[if_neg (by rw[h];simp;omega),if_neg oM]
 obtain⟨o,ho⟩:∃ o,o=s.fm r:=⟨_,rfl⟩;rw[<-ho] at f0 f1 f2 f3 f4 ⊢;obtain⟨W,hW⟩:∃ W,W=fA (o.getD F.zero):=⟨_,rfl⟩;obtain⟨b,hb⟩:∃ b,b=o.isSome:=⟨_,rfl⟩;rw[show fv (o.getD F.zero)=av W by rw[hW],<-hb];have fin1:o=none->W=⟨[],R0⟩/\b=false:=λh=>by rw[h] at hW hb;exact⟨hW.trans uV,hb⟩
 obtain⟨wt,w1,w2,w3⟩:=W;have fin3:o=none->wt=[]/\w1=false/\w2=[]/\w3=[]/\b=false:=λh=>by obtain⟨h1,h2⟩:=fin1 h;simp only[A.mk.injEq,R.mk.injEq] at h1;exact⟨h1.1,h1.2.1,h1.2.2.1,h1.2.2.2,h2⟩
 clear fin1;have g3:s.q.valid=true->1<=r.k->r.k<=4->zD 272 [sv s,rwv r] (.tup [av ⟨wt,w1,w2,w3⟩,bV b]):=λh h1 h2=>by rw[hW,hb,f3 h h1 h2];exact cin
 have g4:s.q.valid=true->5<=r.k->r.k<14->zD 273 [sv s,rwv r] (.tup [av ⟨wt,w1,w2,w3⟩,bV b]):=λh h1 h2=>by rw[hW,hb,f4 h h1 h2];exact cun h
 clear hW hb f3 f4 cin cun ho;generalize s.q.valid=vd at *;cbv;refine zQ (λe1=>?_) (λe1=>?_);{cbv;obtain⟨q0,q1,q2,q3,q4⟩:=fin3 (f0 e1);subst q0 q1 q2 q3 q4;exact rA};cbv;refine zQ (λe2=>?_) (λe2=>?_);{cbv;obtain⟨q0,q1,q2,q3,q4⟩:=fin3 (f1 e2);subst q0 q1 q2 q3 q4;exact rA};cbv;refine mF [2,3,4,6,18,16] [2,3,4,6] rfl rfl okA (cv) rfl ?_;cbv;refine zP (λe3=>?_) (λe3=>?_)
 rotate_left
 {cbv;obtain⟨q0,q1,q2,q3,q4⟩:=fin3 (f2 e3);subst q0 q1 q2 q3 q4;exact rA};cbv;clear cv f0 f1 f2 fin3;have hk:r.k=1\/r.k=2\/r.k=3\/r.k=4\/r.k=5\/r.k=6\/r.k=7\/r.k=8\/r.k=9\/r.k=10\/r.k=11\/r.k=12\/r.k=13:=by omega
 refine WR 9 [2,3,4,6] [2,3,4,6] rfl (by cbv) ?_;cbv;rcases hk with hk|hk|hk|hk|hk|hk|hk|hk|hk|hk|hk|hk|hk;{have cc:=g3 e3 oM oM;clear g3 g4;refine bI 1 hk (by decide) ?_;cbv;refine wB okA cc rfl ?_;cbv;exact rA};{have cc:=g3 e3 oM oM;clear g3 g4;refine bI 2 hk (by decide) ?_;cbv;refine wB okA cc rfl ?_;cbv;exact rA};{have cc:=g3 e3 oM oM;clear g3 g4;refine bI 3 hk (by decide) ?_;cbv;refine wB okA cc rfl ?_;cbv;exact rA};{have cc:=g3 e3 oM oM;clear g3 g4;refine bI 4 hk (by decide) ?_;cbv;refine wB okA cc rfl ?_;cbv;exact rA};{have cc:=g4 e3 oM oM;clear g3 g4;refine bI 5 hk (by decide) ?_;cbv;refine wB okA cc rfl ?_;cbv;exact rA};{have cc:=g4 e3 oM oM;clear g3 g4;refine bI 6 hk (by decide) ?_;cbv;refine wB okA cc rfl ?_;cbv;exact rA};{have cc:=g4 e3 oM oM;clear g3 g4;refine bI 7 hk (by decide) ?_;cbv;refine wB okA cc rfl ?_;cbv;exact rA};{have cc:=g4 e3 oM oM;clear g3 g4;refine bI 8 hk (by decide) ?_;cbv;refine wB okA cc rfl ?_;cbv;exact rA};{have cc:=g4 e3 oM oM;clear g3 g4;refine bI 9 hk (by decide) ?_;cbv;refine wB okA cc rfl ?_;cbv;exact rA};{have cc:=g4 e3 oM oM;clear g3 g4;refine bI 10 hk (by decide) ?_;cbv;refine wB okA cc rfl ?_;cbv;exact rA};{have cc:=g4 e3 oM oM;clear g3 g4;refine bI 11 hk (by decide) ?_;cbv;refine wB okA cc rfl ?_;cbv;exact rA};{have cc:=g4 e3 oM oM;clear g3 g4;refine bI 12 hk (by decide) ?_;cbv;refine wB okA cc rfl ?_;cbv;exact rA};{have cc:=g4 e3 oM oM;clear g3 g4;refine bI 13 hk (by decide) ?_;cbv;refine wB okA cc rfl ?_;cbv;exact rA}
theorem pV {c:Rat}{k n m:Nat}(hc:Fits m c):∀ {a b:List (Int×Rat)},(∀ t,t∈a->Fits k t.2)->(∀ t,t∈b->Fits n t.2)->∀ u,u∈mrg c a b->Fits (k+n+m+1) u.2
 |[],[],_,_,u,h=>by rw[mrg] at h;exact absurd h (by simp)| a::aa,[],ha,hb,u,h=>by rw[mrg] at h;rcases qJ h with rfl|h;{exact (ha a xV).mono oM};{exact pV hc (λt ht=>ha t (xQ _ ht)) hb u h}
 |[],b::bb,ha,hb,u,h=>by rw[mrg] at h;rcases qJ h with rfl|h;{exact (yY (hb b xV) hc).mono oM};{exact pV hc ha (λt ht=>hb t (xQ _ ht)) u h}
 |a::aa,b::bb,ha,hb,u,h=>by rw[mrg] at h;split at h;{rcases qJ h with rfl|h;{exact (ha a xV).mono oM};{exact pV hc (λt ht=>ha t (xQ _ ht)) hb u h}};{split at h;{rcases qJ h with rfl|h;{exact (yY (hb b xV) hc).mono oM};{exact pV hc ha (λt ht=>hb t (xQ _ ht)) u h}};{rcases qJ h with rfl|h;{exact (uK (ha a xV) (yY (hb b xV) hc)).mono oM};{exact pV hc (λt ht=>ha t (xQ _ ht)) (λt ht=>hb t (xQ _ ht)) u h}}}
termination_by a b=>a.length+b.length
structure F.fl (f:F) (k n:Nat):Prop where
 t:∀ t,t∈f.ts->Fits k t.2
 c:Fits k f.c
 len:f.ts.length<=n
theorem F.fl.fit {f:F}{k n:Nat}(h:f.fl k n)(hn:n<2^38):f.fit k:=⟨⟨xF h.len hn,h.t⟩,h.c⟩
theorem F.fl.mono {f:F}{k n k' n':Nat}(h:f.fl k n)(hk:k<=k')(hn:n<=n'):f.fl k' n':=⟨λt ht=>(h.t t ht).mono hk,h.c.mono hk,vR h.len hn⟩
theorem F.fl.merge {f g:F}{c:Rat}{k n k' n' m:Nat}(hf:f.fl k n)(hg:g.fl k' n')(hc:Fits m c):(f.merge g c).fl (k+k'+m+1) (n+n') :=
 ⟨pV hc hf.t hg.t,(uK hf.c (yY hg.c hc)).mono oM,vR (aB _ _ _) (Nat.add_le_add hf.len hg.len)⟩
theorem zero_fl:F.zero.fl 1 0:=⟨λt ht=>absurd ht (by simp[F.zero]),vY (by decide),yD _⟩
theorem gO (v:Int):(F.var v).fl 1 1:=⟨(tC v).t.fit,(tC v).c,yD _⟩
theorem u6 {k:Nat}{q:Rat}(h:Fits k q):(F.num q).fl k 0:=⟨(cK h).t.fit,h,yD _⟩
theorem F.fl.add {f g:F}{k n k' n':Nat}(hf:f.fl k n)(hg:g.fl k' n'):(f.add g).fl (k+k'+2) (n+n'):=(hf.merge hg fits_one).mono oM (yD _)
theorem F.fl.sub {f g:F}{k n k' n':Nat}(hf:f.fl k n)(hg:g.fl k' n'):(f.sub g).fl (k+k'+2) (n+n'):=(hf.merge hg wI).mono oM (yD _)
theorem F.fl.scale {f:F}{c:Rat}{k n m:Nat}(hf:f.fl k n)(hc:Fits m c):(f.scale c).fl (k+m+2) n:=(F.fl.merge zero_fl hf hc).mono oM oM
theorem A.sz.fl {a:A}{k n:Nat}(h:a.sz k)(hk:1<=k)(hn:a.ts.length<=n):a.f.fl k n:=⟨(h.t.fit hk).fit,h.c.fits hk,by show (tq a.ts).length<=n;unfold tq;rw[y8];exact hn⟩
theorem Nm {s:Scp}{r:Row}{k:Nat}{f:F}(hs:s.sz k)(hk:1<=k)(hv:s.q.vok)(h:s.fIn r=some f):f.fl (16*k) 5000:=by
 unfold Scp.fIn at h;split at h
 ·split at h
  ·cases hx:s.q.r.lo[r.i.toNat]? with
   |none=>rw[hx] at h;cases h
   |some x =>
    rw[hx] at h;cases h;exact ((gO r.i).sub (u6 ((hs.q.r.lo.sz x (zX hx)).fits hk))).mono oM oM
  ·split at h
   ·cases hx:s.q.r.hi[r.i.toNat]? with
    |none=>rw[hx] at h;cases h
    |some x =>
     rw[hx] at h;cases h;exact ((u6 ((hs.q.r.hi.sz x (zX hx)).fits hk)).sub (gO r.i)).mono oM oM
   ·split at h
    ·cases hx:s.q.r.rows[r.i.toNat]? with
     |none=>rw[hx] at h;cases h
     |some x =>
      rw[hx] at h;cases h;have hm:=zX hx;exact (((hs.q.r.rows.sz x hm).fl hk (hv.rp x hm)).add zero_fl).mono oM oM
    ·split at h
     ·cases hx:s.path[r.i.toNat]? with
      |none=>rw[hx] at h;cases h
      |some d =>
       rw[hx] at h;simp only at h;have b1:=(gO d.i).sub (u6 ((hs.path.sz d (zX hx)).fits hk));split at h;{split at h;{cases h;exact b1.mono oM oM};{split at h;{cases h;exact (b1.scale wI).mono oM oM};{cases h}}};{cases h}
     {cases h}
 {cases h}
theorem Tk {s:Scp}{r:Row}{p v:F}{l u:Option Rat}{k:Nat}{f:F}(hk:1<=k)(hp:p.fl k 2000)(hv:v.fl 1 1)(hl:Fits k (l.getD 0))(hu:Fits k (u.getD 0))(h:unF s r p v l u=some f):f.fl (16*k) 5000:=by
 unfold unF at h;generalize l.getD 0=lq at *;generalize u.getD 0=uq at *;have two:∀ {c:Prop} [Decidable c] {x:F},(if c then some x else none)=some f->x=f:=λh=>by split at h;{exact vO h};{cases h}
 split at h;{rw[<-two h];exact hv.mono oM oM};split at h;{rw[<-two h];exact (hv.sub hp).mono oM oM};split at h;{rw[<-two h];exact (hp.add zero_fl).mono oM oM};split at h;{rw[<-two h];exact (hp.sub hv).mono oM oM};split at h;{rw[<-two h];exact (hp.scale wI).mono oM oM};split at h;{rw[<-two h];exact (hv.scale wI).mono oM oM};split at h;{rw[<-two h];exact (hp.sub (u6 hl)).mono oM oM};split at h;{rw[<-two h];exact ((u6 hu).sub hp).mono oM oM};split at h;{rw[<-two h];exact (((hp.sub (u6 hl)).scale hu).sub (hv.scale (vC hu hl))).mono oM oM};{cases h}
theorem Nl {s:Scp}{r:Row}{k:Nat}{f:F}(hs:s.sz k)(hk:1<=k)(hv:s.q.vok)(h:s.fUn r=some f):f.fl (16*k) 5000:=by
 unfold Scp.fUn at h;split at h
 ·cases hx:s.q.g.us[r.i.toNat]? with
  |none=>rw[hx] at h;cases h
  |some p =>
   rw[hx] at h;have hm:=zX hx;exact Tk hk ((hs.q.g.us.sz p hm).fl hk (hv.up p hm)) (gO _) (Z3 hs.lems hk _ _ _) (Z3 hs.lems hk _ _ _) h
 {cases h}
theorem Ai {s:Scp}{r:Row}{k:Nat}{f:F}(hs:s.sz k)(hk:1<=k)(h:s.fm r=some f):f.fl (16*k) 5000:=by
 unfold Scp.fm at h;split at h;{cases h}
 ·rename_i hn;have hv:s.q.valid=true:=by
   cases hx:s.q.valid with
   |true=>rfl| false=>exact absurd (.inr (.inr hx)) hn
  split at h;{exact Nm hs hk (Qry.vok_of hv) h};{exact Nl hs hk (Qry.vok_of hv) h}
def sumL (s:Scp):F->List Mult->Option F
 |acc,[]=>some acc
 |acc,m::r=>match s.fm m.row with
  |none=>none| some f=>sumL s (acc.add (f.scale m.c.q)) r
def Scp.sum (s:Scp) (l:List Mult):Int×F:=if uN none l=false then (1,F.zero) else match sumL s F.zero l with
 |none=>(12,F.zero)| some f=>(0,f)
theorem Qa {s:Scp}{k:Nat}(hs:s.sz k)(hk:8<=k):∀ {l:List Mult} {acc f:F} {a n:Nat},(∀ m,m∈l->m.c.sz (8*k))->acc.fl a n->sumL s acc l=some f->f.fl (a+25*k*l.length) (n+5000*l.length)
 |[],acc,f,a,n,_,ha,h=>by cases h;simpa using ha
 |m::r,acc,f,a,n,hm,ha,h=>by
  unfold sumL at h;cases hx:s.fm m.row with
  |none=>rw[hx] at h;cases h
  |some g =>
   rw[hx] at h;have h1:=(Ai hs oM hx).scale ((hm m xV).fits oM);have h2:=Qa hs hk (λm' hm'=>hm m' (xQ _ hm')) ((ha.add h1).mono (show _<=a+25*k by omega) (yD _)) h;refine h2.mono ?_ ?_;{rw[bK,qO,t8];omega};{rw[bK];omega}
theorem CY (s:Scp)(l:List Mult)(hs:s.sz (2^20))(hl:Msz (2^23) l)(hn:l.length<=100):zD 188 [sv s,mlv l] (.tup [fv (s.sum l).2,iV ((s.sum l).1)]):=by
 refine sF Tryz.f188 ?_;have cc:=Mp l (hl.mono (by decide));have cf:=λr=>Rd s r (hs.mono (by decide));have h0:uN none l=false->s.sum l=(1,F.zero):=λh=>if_pos h;have h1:uN none l=true->sumL s F.zero l=none->s.sum l=(12,F.zero):=λh g=>by unfold Scp.sum;rw[if_neg (by rw[h];decide),g]
 have h2:∀ f,uN none l=true->sumL s F.zero l=some f->s.sum l=(0,f):=λf h g=>by unfold Scp.sum;rw[if_neg (by rw[h];decide),g]
 obtain⟨W,hW⟩:∃ W,W=fA (s.sum l).2:=⟨_,rfl⟩;obtain⟨e,he⟩:∃ e,e=(s.sum l).1:=⟨_,rfl⟩;rw[show fv (s.sum l).2=av W by rw[hW],<-he];have g0:uN none l=false->W=⟨[],R0⟩/\e=1:=λh=>by rw[h0 h] at hW he;exact⟨hW.trans uV,he⟩
 have g1:uN none l=true->sumL s F.zero l=none->W=⟨[],R0⟩/\e=12:=λh g=>by rw[h1 h g] at hW he;exact⟨hW.trans uV,he⟩
 have g2:∀ f,uN none l=true->sumL s F.zero l=some f->W=fA f/\e=0:=λf h g=>by rw[h2 f h g] at hW he;exact⟨hW,he⟩
 clear h0 h1 h2 hW he;have hll:l.length<2^38:=hl.len;have hsn:∀ acc m r,sumL s acc (m::r)=match s.fm m.row with
  |none=>none| some f=>sumL s (acc.add (f.scale m.c.q)) r:=λ_ _ _=>rfl
 have hfl:∀ r f,s.fm r=some f->f.fl (2^24) 5000:=λr f h=>(Ai hs (by decide) h).mono (by decide) oM;have hms:=hl.sz;obtain⟨T,hT⟩:∃ T:F->List Mult->Option F,sumL s=T:=⟨_,rfl⟩;have hTn:∀ acc,T acc []=some acc:=λacc=>by rw[<-hT];rfl
 rw[hT] at hsn g1 g2;generalize uN none l=cn at *;clear hT hs hl;cbv;refine mF [1,2,4,11] [2,4] rfl rfl okA (cc) rfl ?_;cbv;refine zP (λe1=>?_) (λe1=>?_)
 rotate_left
 {cbv;obtain⟨q1,q2⟩:=g0 e1;subst q1 q2;exact rA};have g1':=g1 e1;have g2':=λf=>g2 f e1;clear g0 g1 g2 cc;cbv;refine zW (σ:=Nat×F) (λst=>⟨[(2,.ptr 2 0),(4,.ptr 4 0),(6,.ptr 6 0),(15,mlv l),(16,iV l.length),(17,iV st.1)],[(2,.box (sc s)),(4,.box [.nil,.ff,.nil,.nil]),(6,.box [tsv (fA st.2).ts,bV ((fA st.2).c.neg),nat (fA st.2).c.num,nat (fA st.2).c.den])]⟩)
  (λst=>st.1<=l.length/\T F.zero l=T st.2 (l.drop st.1)/\st.2.fl (1+2^25*st.1) (5000*st.1)) (λst=>l.length-st.1)
  (0,F.zero) ⟨om,rfl,zero_fl⟩ (.le ?_ ?_ rfl) ?_
 {cbv;exact⟨lR,lR,lR,lR,zB (by (try dsimp only [zY] at *);rw[zA]),lR,trivial⟩};{show leO _ [(2,.box (sc s)),(4,.box [.nil,.ff,.nil,.nil]),(6,.box [tsv (fA F.zero).ts,bV ((fA F.zero).c.neg),nat (fA F.zero).c.num,nat (fA F.zero).c.den])];rw[uV];cbv;exact okA};intro st hst;obtain⟨h1,hv,ha⟩:=hst;generalize st.1=i at *;generalize st.2=acc at *;obtain⟨V,hV⟩:=ex (fA acc);simp only[hV];cbv;refine zE (λh5=>?_) (λh5=>?_)
 ·(have hlt:i<l.length:=by exact om);obtain⟨m,hm⟩:=zO hlt
  have hmem:=zX hm;rw[zU hm,hsn] at hv;have cfm:=cf m.row;have hmc:=hms m hmem;have hxf:∀ f,s.fm m.row=some f->f.fl (2^24) 5000:=λf h=>hfl m.row f h;generalize hx:s.fm m.row=o at *;have idx:∀ {K:List PV->Prop},K (mc m)->IdxOk 7 (λ_=>enc mc l) (λ_=>(i:Int)) K:=λhK=>xH (l:=l) i rfl hlt wY xN (λm' hm'=>by rw[hm] at hm';cases hm';exact hK);clear cf;cases o with
  |none =>
   (have hv':T F.zero l=none:=hv;obtain⟨q1,q2⟩:=g1' hv';have cfm':zD 230 [sv s,rwv m.row] (.tup [av ⟨[],R0⟩,bV false]):=by have h:zD 230 [sv s,rwv m.row] (.tup [av (fA F.zero),bV false]):=cfm;rw[uV] at h;exact h);clear cfm hv hv' g1' g2';subst q1 q2;cbv;refine idx ?_;cbv;refine mF [2,4,6,8,15,16,17,22,24] [2,4,6,8] rfl rfl okA (cfm') rfl ?_;cbv;refine zP (λe=>absurd e (by decide)) (λ_=>?_);cbv;exact rA
  |some f =>
   have hv':T F.zero l=T (acc.add (f.scale m.c.q)) (l.drop (i+1)):=hv;have hf:=hxf f rfl;have b1:=hf.scale (hmc.fits (by decide));have b2:=ha.add b1;have cs:=mY (fA f) m.c ((hf.fit (by decide)).fA.mono (by decide)) (hmc.mono (by decide));rw[qP] at cs;have ca:=HG (fA acc) (fA (f.scale m.c.q)) ((ha.fit oM).fA.mono oM) ((b1.fit (by decide)).fA.mono (by decide));rw[qP,qP] at ca;have hacc:(acc.add (f.scale m.c.q)).fl (1+2^25*(i+1)) (5000*(i+1)):=b2.mono oM oM;have cfm':zD 230 [sv s,rwv m.row] (.tup [av (fA f),bV true]):=cfm;clear cfm hv hxf b1 b2 ha;dsimp only [fv] at cs ca;rw[hV] at ca;generalize hA':acc.add (f.scale m.c.q)=acc' at *;obtain⟨V',hV'⟩:=ex (fA acc');rw[hV'] at ca;generalize fA (f.scale m.c.q)=X at *;generalize fA f=Y at *;cbv;refine idx ?_;cbv;refine mF [2,4,6,8,15,16,17,22,24] [2,4,6,8] rfl rfl okA (cfm') rfl ?_;cbv;refine zP (λ_=>?_) (λe=>absurd e (by decide));cbv;refine WR 6 [2,4,6,8,9,15,16,17] [2,4,6,8,9] rfl (by cbv) ?_;cbv;refine dA cs ?_;cbv;refine dA ca ?_;cbv;refine⟨zC om om,(i+1,acc'),⟨om,hv',hacc⟩,om,.le ?_ ?_ rfl⟩;{cbv;exact⟨lR,lR,lR,lR,lR,zB om,trivial⟩};{show leO _ [(2,.box (sc s)),(4,.box [.nil,.ff,.nil,.nil]),(6,.box [tsv (fA acc').ts,bV ((fA acc').c.neg),nat (fA acc').c.num,nat (fA acc').c.den])];rw[hV'];cbv;exact okA}
 ·(have hi:i=l.length:=by exact om);rw[hi,wD,hTn] at hv
  obtain⟨q1,q2⟩:=g2' acc hv;rw[hV] at q1;clear g1' g2' hv;subst q1 q2;cbv;exact rA
theorem Scp.sum_fl {s:Scp}{l:List Mult}(hs:s.sz (2^20))(hl:Msz (2^23) l)(hn:l.length<=100):(s.sum l).2.fl (2^32) 500000:=by
 unfold Scp.sum;split;{exact zero_fl.mono (by decide) oM}
 ·cases hx:sumL s F.zero l with
  |none=>exact zero_fl.mono (by decide) oM| some f=>exact (Qa hs (by decide) (λm hm=>(hl.sz m hm).mono (by decide)) zero_fl hx).mono oM oM
def Scp.proves (s:Scp) (f:A) (l:List Mult):Bool:=decide ((s.sum l).1=0)&&(f.valid 9223372036854775807&&(decide ((f.f.sub (s.sum l).2).ts.length=0)&&decide (0<=z3 (f.f.sub (s.sum l).2).c)))
theorem Ud (s:Scp)(f:A)(l:List Mult)(hs:s.sz (2^20))(hf:f.sz (2^32))(hl:Msz (2^23) l)(hn:l.length<=100):zD 139 [sv s,av f,mlv l] (bV (s.proves f l)):=by
 refine sF Tryz.f139 ?_;have cs:=CY s l hs hl hn;have cv:=mX f 9223372036854775807 (hf.mono (by decide));have fl:=Scp.sum_fl hs hl hn;have cb:=a9 f (fA (s.sum l).2) (hf.mono (by decide)) ((fl.fit (by decide)).fA.mono (by decide));rw[qP] at cb;have ff:=(hf.fit (by decide):f.f.fit (2^32));have fr:Fits (2^34) (f.f.sub (s.sum l).2).c:=(uK ff.c (yY fl.c wI)).mono (by decide);have cg:=s86 (zG (f.f.sub (s.sum l).2).c) (xF (zT fr).n (by decide));rw[zV] at cg;have hr:s.proves f l=(decide ((s.sum l).1=0)&&(f.valid 9223372036854775807&&(decide ((tR (f.f.sub (s.sum l).2).ts).length=0)&&decide (0<=z3 (f.f.sub (s.sum l).2).c)))):=by rw[w4];rfl
 rw[hr];dsimp only [fv] at cs cb;have e1:fA (f.f.sub (s.sum l).2)=⟨tR (f.f.sub (s.sum l).2).ts,zG (f.f.sub (s.sum l).2).c⟩:=rfl;rw[e1] at cb;clear hr e1 fl ff fr hf hs hl;generalize z3 (f.f.sub (s.sum l).2).c=sg at *;generalize zG (f.f.sub (s.sum l).2).c=C at *;generalize tR (f.f.sub (s.sum l).2).ts=T at *;generalize fA (s.sum l).2=V at *;generalize (s.sum l).1=e at *;generalize f.valid 9223372036854775807=vd at *;cbv;refine mF [2,3,4,11,12] [3,4] rfl rfl okA (cs) rfl ?_;cbv;refine zQ (λh=>?_) (λh=>?_)
 ·cbv;refine cA cv ?_;cbv;refine zP (λh2=>?_) (λh2=>?_)
  ·cbv;refine mF [23,24] [] rfl rfl okA (cb) rfl ?_;cbv;refine zQ (λh3=>?_) (λh3=>?_)
   ·cbv;refine cA cg ?_;cbv
    (refine rC ?_;cbv)
    refine z4 ?_;rw[decide_eq_true h,h2,decide_eq_true (p:=T.length=0) (by rw[zA] at h3;exact om)];simp
   ·cbv
    (refine rC ?_;cbv)
    refine zK ?_;rw[decide_eq_false (p:=T.length=0) (by rw[zA] at h3;exact om)];simp
  ·cbv
   (refine rC ?_;cbv)
   exact zK (by rw[h2];simp)
 ·cbv
  (refine rC ?_;cbv)
  exact zK (by rw[decide_eq_false h];rfl)
def Scp.refutes (s:Scp) (l:List Mult):Bool:=decide ((s.sum l).1=0)&&(decide ((s.sum l).2.ts.length=0)&&decide (z3 (s.sum l).2.c<0))
theorem HJ (s:Scp)(l:List Mult)(hs:s.sz (2^20))(hl:Msz (2^23) l)(hn:l.length<=100):zD 138 [sv s,mlv l] (bV (s.refutes l)):=by
 refine sF Tryz.f138 ?_;have cs:=CY s l hs hl hn;have fl:=Scp.sum_fl hs hl hn;have cg:=s86 (zG (s.sum l).2.c) (xF (zT fl.c).n (by decide));rw[zV] at cg;have hr:s.refutes l=(decide ((s.sum l).1=0)&&(decide ((tR (s.sum l).2.ts).length=0)&&decide (z3 (s.sum l).2.c<0))):=by rw[w4];rfl
 rw[hr];dsimp only [fv] at cs;have e1:fA (s.sum l).2=⟨tR (s.sum l).2.ts,zG (s.sum l).2.c⟩:=rfl;rw[e1] at cs;clear hr e1 fl hs hl;generalize z3 (s.sum l).2.c=sg at *;generalize zG (s.sum l).2.c=C at *;generalize tR (s.sum l).2.ts=T at *;generalize (s.sum l).1=e at *;cbv;refine mF [8,9] [] rfl rfl okA (cs) rfl ?_;cbv;refine zQ (λh=>?_) (λh=>?_)
 ·cbv;refine zQ (λh3=>?_) (λh3=>?_)
  ·cbv;refine cA cg ?_;cbv
   (refine rC ?_;cbv)
   refine z4 ?_;rw[decide_eq_true h,decide_eq_true (p:=T.length=0) (by rw[zA] at h3;exact om)];simp
  ·cbv
   (refine rC ?_;cbv)
   refine zK ?_;rw[decide_eq_false (p:=T.length=0) (by rw[zA] at h3;exact om)];simp
 ·cbv
  (refine rC ?_;cbv)
  exact zK (by rw[decide_eq_false h];rfl)
def Lem.form (m:Lem) (p:F):F:=if m.up=true then (p.sub (F.num m.v.q)).scale (-1) else p.sub (F.num m.v.q)
def Scp.lemB (s:Scp) (m:Lem):Bool:=decide (0<=m.u/\m.u<s.q.g.us.length)&&(m.v.ok&&(s.q.valid&&match s.q.g.us[m.u.toNat]? with
 |some p=>s.proves (fA (m.form p.f)) m.pf| none=>false))
theorem Pi {m:Lem}{p:F}{k n:Nat}(hp:p.fl k n)(hm:Fits k m.v.q):(m.form p).fl (2*k+6) n:=by unfold Lem.form;split;{exact ((hp.sub (u6 hm)).scale wI).mono oM oM};{exact (hp.sub (u6 hm)).mono oM oM}
theorem CZ (s:Scp)(m:Lem)(hs:s.sz (2^20))(hm:m.v.sz (2^20))(hl:Msz (2^20) m.pf)(hn:m.pf.length<=100):zD 137 [sv s,lv' m] (bV (s.lemB m)):=by
 refine sF Tryz.f137 ?_;have cvd:=HO m.v (hm.mono (by decide));have crv:=mW s.q (hs.q.mono (by decide));have hno:¬(0<=m.u/\m.u<s.q.g.us.length)->s.lemB m=false:=λh=>by unfold Scp.lemB;rw[decide_eq_false h];rfl
 have hno2:m.v.ok=false->s.lemB m=false:=λh=>by unfold Scp.lemB;rw[h];simp
 have hno3:s.q.valid=false->s.lemB m=false:=λh=>by unfold Scp.lemB;rw[h];simp
 have hyes:∀ p,0<=m.u->m.u<s.q.g.us.length->m.v.ok=true->s.q.valid=true->s.q.g.us[m.u.toNat]?=some p->s.lemB m=s.proves (fA (m.form p.f)) m.pf:=λp h1 h2 h3 h4 h5=>by unfold Scp.lemB;rw[decide_eq_true ⟨h1,h2⟩,h3,h4,h5];rfl
 have hcs:∀ p,p∈s.q.g.us->zD 185 [av p,av ⟨[],m.v⟩] (fv (p.f.sub (F.num m.v.q))):=λp hp =>
  a9 p ⟨[],m.v⟩ ((hs.q.g.us.sz p hp).mono (by decide)) ⟨⟨by show 0<2^38;decide,λ_ h=>absurd h (by simp)⟩,hm.mono (by decide)⟩
 have fsub:∀ p,p∈s.q.g.us->(p.f.sub (F.num m.v.q)).fit (2^22):=λp hp =>
  (Qb ((hs.q.g.us.sz p hp).fit (by decide)) (cK (hm.fits (by decide))) (by show (tq p.ts).length+0<2^38;unfold tq;rw[y8];exact (hs.q.g.us.sz p hp).t.len)).mono (by decide)
 have hcm:∀ p,p∈s.q.g.us->zD 186 [av (fA (p.f.sub (F.num m.v.q))),rv (zG ((-1:Int):Rat))] (fv ((p.f.sub (F.num m.v.q)).scale (-1))):=λp hp=>by have:=mY (fA (p.f.sub (F.num m.v.q))) (zG ((-1:Int):Rat)) ((fsub p hp).fA.mono (by decide)) ((oZ (-1) (by decide) (by decide)).mono (by decide));rw[qP,zV] at this;exact this
 have hcp:∀ p,p∈s.q.g.us->zD 139 [sv s,av (fA (m.form p.f)),mlv m.pf] (bV (s.proves (fA (m.form p.f)) m.pf)):=λp hp =>
  Ud s (fA (m.form p.f)) m.pf hs (by
   have fs:=fsub p hp;unfold Lem.form;split;{exact ((n9 fs wI (by decide)).fA).mono (by decide)}
   ·exact fs.fA.mono (by decide)) (hl.mono (by decide)) hn
 have c1:=C5 (-1) (by decide) (by decide);have hul:=hs.q.g.us.len;generalize hres:s.lemB m=res at *;generalize m.v.ok=ok at *;generalize hvd:s.q.valid=vd at *;clear hres hs hm hl fsub;cbv;refine zQ (λe1=>?_) (λe1=>?_)
 ·cbv
  (refine rC ?_;cbv)
  exact zK (hno om)
 cbv;refine zQ (λe2=>?_) (λe2=>?_)
 ·cbv
  (refine rC ?_;cbv)
  exact zK (hno (by rw[zA] at e2;exact om))
 rw[zA] at e2;cbv;refine mF [2,3,4,13,19,21] [2,3] rfl rfl okA (cvd) rfl ?_;cbv;refine yA (λe3=>?_) (λe3=>?_)
 rotate_left
 ·cbv
  (refine rC ?_;cbv)
  exact zK (hno2 e3)
 cbv;refine mF [2,3,4,19,25,27] [2,3] rfl rfl okA (crv) rfl ?_;cbv;refine zP (λe4=>?_) (λe4=>?_)
 rotate_left
 ·cbv
  (refine rC ?_;cbv)
  exact zK (hno3 e4)
 obtain⟨p,hp⟩:∃ p,s.q.g.us[m.u.toNat]?=some p:=zO (by exact om);have hmem:=zX hp;have hr:=hyes p (by exact om) (by exact om) e3 e4 hp;have cs:=hcs p hmem;have cm:=hcm p hmem;have cp:=hcp p hmem;rw[<-hr] at cp;have idx:∀ {K:List PV->Prop},K (ac p)->IdxOk 4 (λ_=>enc ac s.q.g.us) (λ_=>m.u) K:=λhK=>xH (l:=s.q.g.us) m.u.toNat (by exact om) (by exact om) qS j6 (λm' hm'=>by rw[hp] at hm';cases hm';exact hK);clear hcs hcm hcp hyes hno hno2 hno3 hr cvd crv;dsimp only [fv] at cs cm;generalize zG ((-1:Int):Rat)=o at *;cases hup:m.up with
 |true =>
  have ef:m.form p.f=(p.f.sub (F.num m.v.q)).scale (-1):=if_pos hup;rw[ef] at cp;generalize fA ((p.f.sub (F.num m.v.q)).scale (-1))=Y at *;generalize fA (p.f.sub (F.num m.v.q))=X at *;clear ef;cbv;refine WS 13 [2,3,4] [2,3] rfl (by cbv) (by cbv) ?_;cbv;refine idx ?_;cbv;refine wB okA cs rfl ?_;cbv;refine zP (λ_=>?_) (λh=>absurd h (by decide));cbv;refine WR 3 [2,3,4,5] [2,3,5] rfl (by cbv) ?_;cbv;refine dA c1 ?_;cbv;refine dA cm ?_;cbv;refine cA cp ?_;cbv;exact rA
 |false =>
  have ef:m.form p.f=p.f.sub (F.num m.v.q):=if_neg (by rw[hup];decide);rw[ef] at cp;generalize fA (p.f.sub (F.num m.v.q))=X at *;clear ef;cbv;refine WS 13 [2,3,4] [2,3] rfl (by cbv) (by cbv) ?_;cbv;refine idx ?_;cbv;refine wB okA cs rfl ?_;cbv;refine zP (λh=>absurd h (by decide)) (λ_=>?_);cbv;refine cA cp ?_;cbv;exact rA
theorem Mm (s:Scp)(d:Dec)(hq:s.q.sz (2^34))(hd:d.x.sz (2^36)):zD 136 [.agg (dc d),.dptr (sc s) 0] (bV (!(s.q.valid&&d.fits s.q))):=by
 refine sF Tryz.f136 ?_;have cf:=GW s.q d hq hd;generalize (s.q.valid&&d.fits s.q)=b at *;cbv;refine cA cf ?_;cbv
 (refine rC ?_;cbv)
 exact vM rfl
def Scp.pre (s:Scp) (i:Nat):Scp:=⟨s.q,s.path,s.lems.take i⟩
def vV (s:Scp):Nat->List Lem->Bool
 |_,[]=>true| i,m::r=>(s.pre i).lemB m&&vV s (i+1) r
def Scp.scopeB (s:Scp):Bool:=s.q.valid&&((s.path.all λd=>s.q.valid&&d.fits s.q)&&vV s 0 s.lems)
theorem Scp.pre_sz {s:Scp}{k:Nat}(h:s.sz k)(i:Nat):(s.pre i).sz k :=
 ⟨h.q,h.path,⟨by show (s.lems.take i).length<_;rw[kV];have:=h.lems.len;omega,λa ha=>h.lems.sz a (s7 ha),λa ha=>h.lems.pf a (s7 ha)⟩⟩
theorem KS (s:Scp)(hs:s.sz (2^20))(hpf:∀ m,m∈s.lems->m.pf.length<=100):zD 64 [sv s] (bV s.scopeB):=by
 refine sF Tryz.f64 ?_;have crv:=mW s.q (hs.q.mono (by decide));have cha:=PT (λd=>!(s.q.valid&&d.fits s.q)) s.path (fJ hs.path.len (by decide)) 136 [.dptr (sc s) 0] (λd hd=>Mm s d (hs.q.mono (by decide)) ((hs.path.sz d hd).mono (by decide)));have hcl:∀ i m,m∈s.lems->zD 137 [sv (s.pre i),lv' m] (bV ((s.pre i).lemB m)):=λi m hm =>
  CZ (s.pre i) m (Scp.pre_sz hs i) (hs.lems.sz m hm) (hs.lems.pf m hm) (hpf m hm)
 have hr:s.scopeB=(s.q.valid&&(!(s.path.any λd=>!(s.q.valid&&d.fits s.q))&&vV s 0 s.lems)):=by unfold Scp.scopeB;rw[Kj]
 have hll:=hs.lems.len;have hcons:∀ i m r,vV s i (m::r)=((s.pre i).lemB m&&vV s (i+1) r):=λ_ _ _=>rfl;obtain⟨LF,hLF⟩:=ex (vV s);have hnil:∀ i,LF i []=true:=λi=>by rw[<-hLF];rfl
 rw[hLF] at hr hcons;generalize s.scopeB=res at *;generalize (s.path.any λd=>!(s.q.valid&&d.fits s.q))=bad at *;generalize s.q.valid=vd at *;have hlm:∀ i m,zD 137 [sv (s.pre i),lv' m] (bV ((s.pre i).lemB m))->zD 137 [sv ⟨s.q,s.path,s.lems.take i⟩,lv' m] (bV ((s.pre i).lemB m)):=λ_ _ h=>h;clear hs hpf hLF;cbv;refine mF [1,6] [1] rfl rfl okA (crv) rfl ?_;cbv;refine yA (λe1=>?_) (λe1=>?_)
 rotate_left
 ·cbv
  (refine rC ?_;cbv)
  exact zK (by rw[hr,e1];rfl)
 rw[e1,yN] at hr;cbv;refine qF (.trans (Wk.sel _ [1,9,11,12] [1] rfl) (.frz 1 rfl rfl (by repeat' first|exact trivial|apply And.intro) (by repeat' first|exact trivial|apply And.intro))) rfl (by exact⟨lR,⟨rfl,lR,trivial⟩,trivial⟩) cha rfl ?_;cbv;refine zP (λe2=>?_) (λe2=>?_)
 ·cbv
  (refine rC ?_;cbv)
  exact zK (by rw[hr,e2];rfl)
 rw[e2,Bool.not_false,yN] at hr;clear cha crv;cbv;refine zW (σ:=Nat) (λi=>⟨[(1,.dptr (sc s) 0),(16,llv s.lems),(17,iV s.lems.length),(18,iV i)],[]⟩)
  (λi=>i<=s.lems.length/\res=LF i (s.lems.drop i)) (λi=>s.lems.length-i) 0 ⟨om,hr⟩ (.le ?_ ?_ rfl) ?_
 {cbv;exact⟨lR,lR,zB (by (try dsimp only [zY] at *);rw[zA]),lR,trivial⟩};{cbv};clear hr;intro i hi;obtain⟨h1,h2⟩:=hi;cbv;refine zE (λh5=>?_) (λh5=>?_)
 ·(have hlt:i<s.lems.length:=by exact om);obtain⟨m,hm⟩:=zO hlt
  have hmem:=zX hm;rw[zU hm,hcons] at h2;have cl:=hlm i m (hcl i m hmem);generalize (s.pre i).lemB m=b at *;have idx:∀ {K:List PV->Prop},K (lc m)->IdxOk 6 (λ_=>enc lc s.lems) (λ_=>(i:Int)) K:=λhK=>xH (l:=s.lems) i rfl hlt y0 xD (λm' hm'=>by rw[hm] at hm';cases hm';exact hK);clear hcl hlm hcons;cbv;refine idx ?_;cbv;refine zM 12 (by cbv) ?_;cbv;refine⟨uT om om (by rw[zA];exact om),wJ xD _,?_⟩;refine wB (by exact⟨⟨lR,lR,lR,lR,lR,lR,lR,lR,lR,lR,lR,zS (by simp[enc,Vo]),trivial⟩,okA,trivial⟩) cl rfl ?_;cbv;refine zP (λe3=>?_) (λe3=>?_);{rw[e3,yN] at h2;cbv;refine⟨zC om om,i+1,⟨om,h2⟩,om,.le ?_ ?_ rfl⟩;{cbv;exact⟨lR,lR,lR,zB om,trivial⟩};{cbv}}
  ·cbv
   (refine rC ?_;cbv)
   exact zK (by rw[h2,e3];rfl)
 ·(have hi':i=s.lems.length:=by exact om);rw[hi',wD,hnil] at h2
  cbv
  (refine rC ?_;cbv)
  exact yH h2
theorem kD:ty 43=.sli 7 88 [iV 0,iV 0,iV 0,iV 0,.ff,.nil,.nil]:=by cbv
theorem s4 {t base x d ps K n b z xs}(ht:ty t=.sli n b z){m o len els}(hb:ev (zF ps.tmps) base=.osl m n o len)(ho:yO ps.objs m=some (.arr n els))(h0:els ()=[])(ho0:o ()=0)(hl:len ()=0)(hx:ev (zF ps.tmps) x=.sl xs)(hw:Wid n xs) (hr:Room (λ_=>((xs ()).length:Nat)) b) (hf:yV d ⟨uI (scr m) ps.tmps,xO (scr m) (uD ps.objs m)⟩=true) (hK:K ⟨uG (uI (scr m) ps.tmps) d (oV d n ((xs ()).length)),xO (scr m) (uD ps.objs m)++[(d,.arr n xs)]⟩):AppK t base x (some d) ps K:=by
 have e1:(λ_:Unit=>(els ()).length+(xs ()).length)=λ_=>(xs ()).length:=funext λ_=>by simp[h0]
 have e2:(λ_:Unit=>els ()++xs ())=xs:=funext λ_=>by simp[h0]
 exact wM ht hb ho ho0 (by rw[hl,h0];rfl) hx hw (by simpa[h0] using hr) hf (by rw[e1,e2];exact hK)
abbrev mao (n:Nat) (l:List Mult):List (Nat×Obj'):=[(n,aV 7 (enc mc l))]
theorem Om (l:List Mult)(hl:l.length<2^38):Sound 147 [mlv l] [] [] (oV 100 7 l.length) [] (mao 100 l):=by
 refine sF Tryz.f147 ?_;cbv;refine⟨λb hb=>?_⟩;cbv;refine zP (λh=>?_) (λh=>?_)
 ·(have hb':=hb h;have hl0:l=[]:=by have:=congrArg List.length hb';rw[zA] at this;exact j3 this);cbv;subst hl0;refine mC (ps':=⟨[(2,oV 100 7 0)],[(100,aV 7 ([]))]⟩) 100 (.trans (.le (ps':=⟨[(2,.nil)],[]⟩) ?_ trivial rfl) (.adoptT (ps:=⟨[(2,.nil)],[]⟩) 100 7 2 rfl rfl)) rfl rfl rfl ?_;{cbv;exact okA};{cbv;exact zZ rfl rfl}
 {cbv;refine wM kD rfl rfl rfl rfl rfl (wJ xN _) (z5 om (by simp only[iS,zA];exact om)) rfl ?_;cbv;refine mC (ps':=⟨[(2,oV 7 7 l.length)],[(7,aV 7 (enc mc l))]⟩) 7 (.le ?_ ?_ rfl) rfl rfl rfl ?_;{cbv;exact⟨zZ rfl (by simp[zA]),trivial⟩};{cbv;exact⟨zH rfl,trivial⟩};{cbv;exact lR}}
theorem Ra {α:Type}(p b:List α)(x y:α):((p++y::x::b).set (p.length+1) y).set p.length x=p++x::y::b:=by rw[List.set_append_right _ _ oM,List.set_append_right _ _ oM];simp[show p.length+1-p.length=1 by omega]
theorem tT {α:Type}{p:α->List PV}{n:Nat}{els:List (List D)}{i:Nat}{K:List PV->Prop}(l:List α)(he:els=enc p l)(j:Nat)(hk:i=j)(hj:j<l.length)(hf:∀ a,yS qZ (p a)=true)(hn:∀ a,(p a).length=n) (hK:∀ a,l[j]?=some a->K (p a)):ElOk n (λ_=>els) (λ_=>i) K:=by subst he;exact uM j hk hj hf hn hK
abbrev fld (s : String) (o b : Nat) : Field := { name := s, type := 3, offset := o, embedded := false, tag := "", pkgPath := "", byteOffset := b }
theorem RH:Pg.underlying 107=some (.struct (Pg.fieldsOf 107)):=by rw[uZ];kernel_rfl
theorem Ba : (Pg.fieldsOf 107).toList = [fld "Kind" 0 0, fld "Index" 1 8, fld "Lo" 2 16, fld "Hi" 3 24] := by rw [uZ]; kernel_rfl
theorem C9:Pg.stoodInHeld 107=false:=by rw[uZ];kernel_rfl
theorem Ue:Pg.eqGuardType Pg.depth 107=false:=by rw[uZ];kernel_rfl
theorem pX:Pg.plainKey 3=true:=by rw[uZ];kernel_rfl
theorem FB:Pg.underlying 3=some (.int .i64):=by rw[uZ];kernel_rfl
abbrev oR (a:Row):Array Value:=#[.int .i64 a.k,.int .i64 a.i,.int .i64 a.lo,.int .i64 a.hi]
theorem Uf (a b:Row)(w:World):(Op.equalIn 10000 107 (.agg (oR a)) (.agg (oR b))).run Pg w=.ok (decide (a=b)) w:=by
 rw[show (10000:Nat)=9999+1 from rfl,run_equalIn_agg w 9999 _ _ _ RH C9,Ba];have p0:∀ (c:Row),(part 3 (oR c) 0).run Pg w=.ok (.int .i64 c.k) w:=λc=>run_part_plain _ pX rfl;have p1:∀ (c:Row),(part 3 (oR c) 1).run Pg w=.ok (.int .i64 c.i) w:=λc=>run_part_plain _ pX rfl;have p2:∀ (c:Row),(part 3 (oR c) 2).run Pg w=.ok (.int .i64 c.lo) w:=λc=>run_part_plain _ pX rfl;have p3:∀ (c:Row),(part 3 (oR c) 3).run Pg w=.ok (.int .i64 c.hi) w:=λc=>run_part_plain _ pX rfl;have q:∀ (x y:Int),(Op.equalIn 9999 3 (.int .i64 x) (.int .i64 y)).run Pg w=.ok (x == y) w:=λx y=>run_equalIn_int w 9998 _ .i64 .i64 x y FB;have e:decide (a=b)=((a.k == b.k)&&((a.i == b.i)&&((a.lo == b.lo)&&(a.hi == b.hi)))):=by obtain⟨a1,a2,a3,a4⟩:=a;obtain⟨b1,b2,b3,b4⟩:=b;rw[rS];simp
 rw[e];simp only[Op.eqFields,Sem.run_bind,Sem.run_ite,p0,p1,p2,p3,q,Result.andThen_ok,Sem.run_pure];generalize (a.k == b.k)=x0;generalize (a.i == b.i)=x1;generalize (a.lo == b.lo)=x2;generalize (a.hi == b.hi)=x3;cases x0 <;> cases x1 <;> cases x2 <;> cases x3 <;> rfl
theorem Pm {x y:Operand}{a b:Row}{K:PV->Prop}(hK:K (bV (decide (a=b)))):EqS .eql 107 x y [.i λ_=>a.k,.i λ_=>a.i,.i λ_=>a.lo,.i λ_=>a.hi] [.i λ_=>b.k,.i λ_=>b.i,.i λ_=>b.lo,.i λ_=>b.hi] K:=by refine⟨⟨decide (a=b),λw=>?_,hK⟩⟩;show (do eqGuard .eql 107 x y (.agg (oR a)) (.agg (oR b));binOp .eql 107 (.agg (oR a)) (.agg (oR b)):Sem Value).run Pg w=_;simp only[Sem.run_bind,run_eqGuard_agg w .eql _ x y _ _ Ue,Result.andThen_ok,run_eql_struct,Uf]
theorem BH {x y:Operand}{a b:Row}{K:PV->Prop}(hK:K (bV (!(decide (a=b))))):EqS .neq 107 x y [.i λ_=>a.k,.i λ_=>a.i,.i λ_=>a.lo,.i λ_=>a.hi] [.i λ_=>b.k,.i λ_=>b.i,.i λ_=>b.lo,.i λ_=>b.hi] K:=by refine⟨⟨!(decide (a=b)),λw=>?_,hK⟩⟩;show (do eqGuard .neq 107 x y (.agg (oR a)) (.agg (oR b));binOp .neq 107 (.agg (oR a)) (.agg (oR b)):Sem Value).run Pg w=_;simp only[Sem.run_bind,run_eqGuard_agg w .neq _ x y _ _ Ue,Result.andThen_ok,run_neq_struct,Uf]
def mR (l:List (Row×Rat)):List Mult:=l.map λt=>⟨t.1,zG t.2⟩
theorem jJ (l:List (Row×Rat)):(mR l).length=l.length:=by simp[mR]
theorem ZZ (l m:List (Row×Rat)):mR (l++m)=mR l++mR m:=by simp[mR]
def vH (a b:Row):Bool:=if a.k=b.k then (if a.i=b.i then (if a.lo=b.lo then decide (a.hi<b.hi) else decide (a.lo<b.lo)) else decide (a.i<b.i)) else decide (a.k<b.k)
theorem Ug (a b:Row):vH a b=decide (dF a b<0):=by unfold vH dF orI cI;rw[rS];split <;> (try split) <;> (try split) <;> simp only[decide_eq_true_eq] <;> (repeat' split) <;> omega
theorem PP (a b:Row):zD 173 [rwv a,rwv b] (bV (vH a b)):=by
 refine sF Tryz.f173 ?_;have h1:¬a.k=b.k->vH a b=decide (a.k<b.k):=λh=>if_neg h;have h2:a.k=b.k->¬a.i=b.i->vH a b=decide (a.i<b.i):=λh g=>by unfold vH;grind
 have h3:a.k=b.k->a.i=b.i->¬a.lo=b.lo->vH a b=decide (a.lo<b.lo):=λh g e=>by unfold vH;grind
 have h4:a.k=b.k->a.i=b.i->a.lo=b.lo->vH a b=decide (a.hi<b.hi):=λh g e=>by unfold vH;grind
 generalize vH a b=r at *;cbv;refine zE (λe1=>?_) (λe1=>?_)
 ·cbv;refine zE (λe2=>?_) (λe2=>?_)
  ·cbv;refine zE (λe3=>?_) (λe3=>?_)
   ·have h:=h4 e1 e2 e3;cbv
    (refine rC ?_;cbv)
    exact z4 h.symm
   ·have h:=h3 e1 e2 e3;cbv
    (refine rC ?_;cbv)
    exact z4 h.symm
  ·have h:=h2 e1 e2;cbv
   (refine rC ?_;cbv)
   exact z4 h.symm
 ·have h:=h1 e1;cbv
  (refine rC ?_;cbv)
  exact z4 h.symm
theorem T8 (l:List Mult)(hl:Msz (2^32) l):zD 199 [mlv l] (bV (uN none l)):=by
 refine sF Tryz.f199 ?_;have hll:=hl.len;have hls:=hl.sz;generalize hr:uN none l=r;cbv;refine zW (σ:=Nat×Option Row) (λs=>⟨[(0,mlv l),(3,iV s.1)],[]⟩)
  (λs=>s.1<=l.length/\r=uN s.2 (l.drop s.1)/\(s.1=0->s.2=none)/\(s.1≠0->∃ u,l[s.1-1]?=some u/\s.2=some u.row)) (λs=>l.length-s.1)
  (0,none) ⟨om,hr.symm,λ_=>rfl,λh=>absurd rfl h⟩ (.le ?_ ?_ rfl) ?_
 {cbv;exact okA};{cbv};clear hr;intro s hs;obtain⟨h1,hv,h3,h4⟩:=hs;generalize s.1=i at *
 generalize s.2=p at *;cbv;refine zE (λh5=>?_) (λh5=>?_)
 ·(have hlt:i<l.length:=by rw[zA] at h5;exact om);obtain⟨t,ht⟩:=zO hlt
  (have idx:∀ {K:List PV->Prop},K (mc t)->IdxOk 7 (λ_=>enc mc l) (λ_=>(i:Int)) K:=λhK=>xH (l:=l) i rfl hlt wY xN (λm' hm'=>by grind);have htz:=hls t (zX ht);have cs:=s35 t.c (by have:=htz.n;omega);have cv:=Dz t.c htz;have hd:l.drop i=t::l.drop (i+1):=zU ht;have hvn:(¬0<z3 t.c.q->r=false):=λh=>by grind [uN]);have hvo:t.c.ok=false->r=false:=λh=>by grind [uN]
  have hv0:0<z3 t.c.q->t.c.ok=true->p=none->r=uN (some t.row) (l.drop (i+1)):=λh g e=>by rw[hv,hd,e];show (decide (0<z3 t.c.q)&&(t.c.ok&&(true&&uN (some t.row) (l.drop (i+1)))))=_;grind
  (have hv1:∀ w,0<z3 t.c.q->t.c.ok=true->p=some w->r=(vH w t.row&&uN (some t.row) (l.drop (i+1))):=λw h g e=>by grind [Ug,uN]);clear hv
  generalize z3 t.c.q=sg at *;generalize t.c.ok=ok at *;generalize hrest:uN (some t.row) (l.drop (i+1))=rest at *;cbv;refine zM 35 (by cbv) ?_;cbv;refine idx ?_;cbv;refine dA cv ?_;cbv;refine yA (λe2=>?_) (λe2=>?_)
  rotate_left
  ·cbv
   (refine rC ?_;cbv)
   exact zK (hvo e2)
  cbv;refine idx ?_;cbv;refine dA cs ?_;cbv;refine zQ (λe1=>?_) (λe1=>?_)
  ·cbv
   (refine rC ?_;cbv)
   exact zK (hvn oM)
  cbv;refine zQ (λe3=>?_) (λe3=>?_)
  ·(cbv;obtain⟨u,hu,hu2⟩:=h4 om;have cc:=PP u.row t.row;have hvv:=hv1 u.row oM e2 hu2;generalize vH u.row t.row=cr at *;refine⟨zC om om,xH (l:=l) (i-1) om om wY xN (λu' hu'=>?_)⟩;obtain rfl:u'=u:=by grind);cbv
   refine idx ?_;cbv;refine dA cc ?_;cbv;refine zP (λe4=>?_) (λe4=>?_);{rw[e4,yN] at hvv;cbv;exact⟨zC om om,(i+1,some t.row),⟨om,hvv.trans hrest.symm,λh=>absurd h (by simp),λ_=>⟨_,ht,rfl⟩⟩,om,.le (by cbv;exact⟨lR,zB om,trivial⟩) (by cbv) rfl⟩}
   ·cbv
    (refine rC ?_;cbv)
    exact zK (by grind)
  {cbv;have hvv:=hv0 oM e2 (h3 om);exact⟨zC om om,(i+1,some t.row),⟨om,hvv.trans hrest.symm,λh=>absurd h (by simp),λ_=>⟨_,ht,rfl⟩⟩,om,.le (by cbv;exact⟨lR,zB om,trivial⟩) (by cbv) rfl⟩}
 ·(have:i=l.length:=by rw[zA] at h5;exact om);rw[this,wD] at hv
  have hv':r=true:=hv;cbv
  (refine rC ?_;cbv)
  exact yH hv'
def iL:List Mult->List Mult->Bool
 |[],[]=>true| a::r,b::q=>decide (a.row=b.row)&&(decide (a.c=b.c)&&iL r q)| _,_=>false
theorem iZ:∀ l,iL l l=true
 |[]=>rfl| a::r=>by unfold iL;simp[iZ r]
theorem Uc:∀ {l m:List Mult},l.length≠m.length->iL l m=false
 |[],[],h=>absurd rfl h| a::r,b::q,h=>by unfold iL;rw[Uc (λe=>h (by simp[e]))];simp| [],b::q,_=>rfl| a::r,[],_=>rfl
theorem GX (a b:List Mult)(ha:Msz (2^32) a)(hb:Msz (2^32) b):zD 40 [mlv a,mlv b] (bV (iL a b)):=by
 refine sF Tryz.f40 ?_;have hal:=ha.len;have hbl:=hb.len;have has_:=ha.sz;have hbs:=hb.sz;have hne:=λh=>Uc (l:=a) (m:=b) h;have hcons:∀ x r y q,iL (x::r) (y::q)=(decide (x.row=y.row)&&(decide (x.c=y.c)&&iL r q)):=λ_ _ _ _=>rfl;have hnil:iL [] []=true:=rfl;obtain⟨S,hS⟩:=ex iL;rw[hS] at hne hcons hnil ⊢;clear hS ha hb;generalize hr:S a b=r at *;cbv;refine zE (λe0=>?_) (λe0=>?_)
 rotate_left
 ·have hr':=hne (λe=>e0 (by grind [zA]));cbv
  (refine rC ?_;cbv)
  exact zK hr'
 have hlen:a.length=b.length:=by rw[zA,zA] at e0;exact om
 cbv;refine zW (σ:=Nat) (λi=>⟨[(0,mlv a),(1,mlv b),(5,iV i)],[]⟩)
  (λi=>i<=a.length/\r=S (a.drop i) (b.drop i)) (λi=>a.length-i) 0 ⟨om,hr.symm⟩ (.le ?_ ?_ rfl) ?_
 {cbv;exact okA};{cbv};clear hr hne e0;intro i hi;obtain⟨h1,h2⟩:=hi;cbv;refine zE (λh5=>?_) (λh5=>?_)
 ·(have hlt:i<a.length:=by rw[zA] at h5;exact om);obtain⟨x,hx⟩:=zO hlt
  obtain⟨y,hy⟩:=zO (l:=b) (i:=i) oM;have idx:∀ {K:List PV->Prop},K (mc x)->IdxOk 7 (λ_=>enc mc a) (λ_=>(i:Int)) K:=λhK=>xH (l:=a) i rfl hlt wY xN (λm' hm'=>by grind);have idy:∀ {K:List PV->Prop},K (mc y)->IdxOk 7 (λ_=>enc mc b) (λ_=>(i:Int)) K:=λhK=>xH (l:=b) i rfl oM wY xN (λm' hm'=>by grind);have cs:=s69 x.c y.c (has_ x (zX hx)) (hbs y (zX hy));rw[zU hx,zU hy,hcons] at h2;generalize hrest:S (a.drop (i+1)) (b.drop (i+1))=rest at *;generalize decide (x.c=y.c)=ec at *;clear hcons;cbv;refine zM 25 (by cbv) ?_;cbv;refine idx ?_;cbv;refine idy ?_;cbv;refine BH ?_;cbv;refine yA (λe1=>?_) (λe1=>?_)
  ·(have e1':decide (x.row=y.row)=false:=by grind);rw[e1'] at h2
   cbv
   (refine rC ?_;cbv)
   exact zK h2
  (have e1':decide (x.row=y.row)=true:=by grind);rw[e1',yN] at h2
  cbv;refine idx ?_;cbv;refine idy ?_;cbv;refine dA cs ?_;cbv;refine zP (λe2=>?_) (λe2=>?_);{rw[e2,yN] at h2;cbv;exact⟨zC om om,i+1,⟨om,h2.trans hrest.symm⟩,om,.le (by cbv;exact⟨lR,lR,zB om,trivial⟩) (by cbv) rfl⟩}
  ·cbv
   (refine rC ?_;cbv)
   exact zK (by grind)
 ·(have hi':i=a.length:=by rw[zA] at h5;exact om);rw[hi',wD,hlen,wD,hnil] at h2
  cbv
  (refine rC ?_;cbv)
  exact yH h2
def plM (r:Row) (q:Rat):List (Row×Rat)->List (Row×Rat)
 |[]=>[(r,q)]| t::rest=>if vH t.1 r=true then t::plM r q rest else if t.1=r then (r,t.2+q)::rest else (r,q)::t::rest
def plMq (l:List (Row×Rat)) (r:Row) (q:Rat):List (Row×Rat):=if z3 q=0 then l else plM r q l
theorem MX {l:List (Row×Rat)}{i:Nat}{t:Row×Rat}(h:l[i]?=some t):(mR l)[i]?=some ⟨t.1,zG t.2⟩:=by grind [mR]
theorem R9 (l:List (Row×Rat))(n:Nat):(mR l).take n=mR (l.take n):=by simp[mR,Vo]
structure Mfit (k:Nat) (l:List (Row×Rat)):Prop where
 len:l.length<2^37
 fit:∀ t,t∈l->Fits k t.2
theorem Xe {α:Type}{p:α->List PV}{n:Nat}(hn:∀ a,(p a).length=n)(l:List α)(a b:Nat):Wid n (λ_=>((enc p l).take a).drop b):=⟨λe he=>(wJ hn l).h e (s7 (List.mem_of_mem_drop he))⟩
theorem Rm (l:List (Row×Rat))(r:Row)(c:R)(hl:Mfit (2^30) l)(hc:c.sz (2^30)):zD 112 [mlv (mR l),rwv r,rv c] (mlv (mR (plMq l r c.q))):=by
 refine sF Tryz.f112 ?_;have cs:=s35 c (by have:=hc.n;omega);have cc:=s47 c (hc.mono (by decide));have hadd:∀ t,t∈l->zD 18 [rv (zG t.2),rv c] (rv (zG (t.2+c.q))):=λt ht=>by have:=s44 (zG t.2) c ((zT (hl.fit t ht)).mono (by decide)) (hc.mono (by decide));rw[zV] at this;omega
 have hll:=hl.len;have d0:z3 c.q=0->plMq l r c.q=l:=λh=>if_pos h;have d1:¬z3 c.q=0->plMq l r c.q=plM r c.q l:=λh=>if_neg h;have hless:∀ t:Row×Rat,zD 173 [rwv t.1,rwv r] (bV (vH t.1 r)):=λt=>PP t.1 r;have hpn:plM r c.q []=[(r,c.q)]:=rfl;have hpc:∀ t rest,plM r c.q (t::rest)=if vH t.1 r=true then t::plM r c.q rest else if t.1=r then (r,t.2+c.q)::rest else (r,c.q)::t::rest:=λ_ _=>rfl
 obtain⟨G,hG⟩:=ex (plM r c.q);rw[hG] at d1 hpn hpc;generalize plMq l r c.q=M at *;generalize z3 c.q=sg at *;generalize hcq:c.q=q at *;clear hG hl hc hcq;cbv;refine cA cs ?_;cbv;refine zE (λe0=>?_) (λe0=>?_);{have hM:=d0 e0;cbv;subst hM;exact rA};have hM:=d1 e0;clear d0 d1 cs;cbv;refine zW (σ:=Nat) (λi=>⟨[(0,mlv (mR l)),(4,.ptr 4 0),(5,.ptr 5 0),(7,iV i)],[(4,.box (rwc r)),(5,.box [bV c.neg,nat c.num,nat c.den])]⟩)
  (λi=>i<=l.length/\M=l.take i++G (l.drop i)) (λi=>l.length-i) 0 ⟨om,by grind⟩ (.le ?_ ?_ rfl) ?_
 {cbv;exact okA};{cbv;exact okA};clear hM;intro i hi;obtain⟨h1,h2⟩:=hi;have hml:=jJ l;have wid:=wJ xN (mR (l.take i));have wid2:=wJ xN (mR l);by_cases hlt:i<l.length
 ·(obtain⟨t,ht⟩:=zO hlt;have hmem:=zX ht;have hdr:=zU ht;rw[hdr,hpc] at h2;have k1:vH t.1 r=true->M=l.take (i+1)++G (l.drop (i+1)):=λh=>by grind);have k2:vH t.1 r=false->t.1=r->M=l.take i++([(r,t.2+q)]++l.drop (i+1)):=λh g=>by grind
  (have k3:vH t.1 r=false->¬t.1=r->M=l.take i++([(r,q)]++l.drop i):=λh g=>by grind);clear h2
  have cl:=hless t;have ca:=hadd t hmem;obtain⟨Y,hY⟩:=ex (zG t.2);have hmt:=MX ht;rw[hY] at ca hmt;have idx:∀ {K:List PV->Prop},K (mc ⟨t.1,Y⟩)->IdxOk 7 (λ_=>enc mc (mR l)) (λ_=>(i:Int)) K:=λhK=>xH (l:=mR l) i rfl oM wY xN (λm' hm'=>by grind);generalize vH t.1 r=lt at *;clear hless hadd hpc hpn;cbv;refine zM 13 (by cbv) ?_;cbv;refine vN (by rw[zA];exact om) ?_;cbv;refine idx ?_;cbv;refine dA cl ?_;cbv;refine zP (λe1=>?_) (λe1=>?_);{have hk:=k1 e1;cbv;exact⟨zC om om,i+1,⟨om,hk⟩,om,.le (by cbv;exact⟨lR,lR,lR,zB om,trivial⟩) (by cbv;exact okA) rfl⟩};have k2':=k2 e1;have k3':=k3 e1;clear k1 k2 k3 cl;cbv;refine⟨uT om om (by rw[zA];exact om),wJ xN _,?_⟩;refine s4 kD rfl rfl rfl rfl rfl rfl (Xe xN _ _ _) (z5 oM (by simp[zA,hml];exact om)) rfl ?_;cbv;refine zM 13 (by cbv) ?_;cbv;refine vN (by rw[zA];exact om) ?_;cbv;refine idx ?_;cbv;refine Pm ?_;cbv;refine zE (λe2=>?_) (λe2=>?_);{have hk:=k2' e2;have hX:mR [(r,t.2+q)]=[⟨r,zG (t.2+q)⟩]:=rfl;generalize zG (t.2+q)=X at *;cbv;refine zM 11 (by cbv) ?_;cbv;refine idx ?_;cbv;refine dA ca ?_;cbv;refine wM kD rfl rfl rfl (by simp) rfl ⟨by simp[zL,xE]⟩ (z5 oM (by simp[zL,zA,hml];exact om)) rfl ?_;cbv;refine⟨zC om om,?_⟩;cbv;refine⟨uT (by exact om) (by rw[zA];exact om) (by rw[zA];exact om),wJ xN _,?_⟩;refine wM kD rfl rfl rfl (by simp) rfl (Xe xN _ _ _) (z5 oM (by simp[zL,zA,hml];exact om)) rfl ?_;cbv;refine cZ _ (.trans (.le (ps':=⟨[(6,oV 71 7 M.length)],[(71,aV 7 (enc mc (mR M)))]⟩) ?_ ?_ rfl) (.frz 71 rfl rfl ?_ ?_)) rfl ?_;{cbv;exact⟨zZ rfl (by rw[hk];simp[zL,zA,hml];exact om),trivial⟩};{cbv;refine⟨zH ?_,trivial⟩;rw[hk,ZZ,ZZ,<-xZ,<-xZ,hX];simp[enc,mR,Vo,F8,yW,zL];rfl};{cbv;exact⟨z8 (by simp[zA,jJ]),trivial⟩};{exact trivial};{cbv;exact zS (yW (by simp[zA,jJ]))}};{have hk:=k3' e2;have hX:mR [(r,q)]=[⟨r,zG q⟩]:=rfl;generalize zG q=X at *;cbv;refine zM 6 (by cbv) ?_;cbv;refine dA cc ?_;cbv;refine wM kD rfl rfl rfl (by simp) rfl ⟨by simp[zL,xE]⟩ (z5 oM (by simp[zL,zA,hml];exact om)) rfl ?_;cbv;refine⟨uT (by exact om) (by rw[zA];exact om) (by rw[zA];exact om),wJ xN _,?_⟩;refine wM kD rfl rfl rfl (by simp) rfl (Xe xN _ _ _) (z5 oM (by simp[zL,zA,hml];exact om)) rfl ?_;cbv;refine cZ _ (.trans (.le (ps':=⟨[(6,oV 71 7 M.length)],[(71,aV 7 (enc mc (mR M)))]⟩) ?_ ?_ rfl) (.frz 71 rfl rfl ?_ ?_)) rfl ?_;{cbv;exact⟨zZ rfl (by rw[hk];simp[zL,zA,hml];exact om),trivial⟩};{cbv;refine⟨zH ?_,trivial⟩;rw[hk,ZZ,ZZ,<-xZ,<-xZ,hX];simp[enc,mR,Vo,F8,yW,zL];rfl};{cbv;exact⟨z8 (by simp[zA,jJ]),trivial⟩};{exact trivial};{cbv;exact zS (yW (by simp[zA,jJ]))}}
 ·(have hi':i=l.length:=by omega);have hk:M=l.take i++([(r,q)]++l.drop i):=by grind
  have hX:mR [(r,q)]=[⟨r,zG q⟩]:=rfl;generalize zG q=X at *;clear h2 hpn hpc hless hadd;cbv;refine zM 13 (by cbv) ?_;cbv;refine yC (by rw[zA];exact om) ?_;cbv;refine⟨uT om om (by rw[zA];exact om),wJ xN _,?_⟩;refine s4 kD rfl rfl rfl rfl rfl rfl (Xe xN _ _ _) (z5 oM (by simp[zA,hml];exact om)) rfl ?_;cbv;refine zM 13 (by cbv) ?_;cbv;refine yC (by rw[zA];exact om) ?_;cbv;refine zM 6 (by cbv) ?_;cbv;refine dA cc ?_;cbv;refine wM kD rfl rfl rfl (by simp) rfl ⟨by simp[zL,xE]⟩ (z5 oM (by simp[zL,zA,hml];exact om)) rfl ?_;cbv;refine⟨uT (by exact om) (by rw[zA];exact om) (by rw[zA];exact om),wJ xN _,?_⟩;refine wM kD rfl rfl rfl (by simp) rfl (Xe xN _ _ _) (z5 oM (by simp[zL,zA,hml];exact om)) rfl ?_;cbv;refine cZ _ (.trans (.le (ps':=⟨[(6,oV 71 7 M.length)],[(71,aV 7 (enc mc (mR M)))]⟩) ?_ ?_ rfl) (.frz 71 rfl rfl ?_ ?_)) rfl ?_;{cbv;exact⟨zZ rfl (by rw[hk];simp[zL,zA,hml];exact om),trivial⟩};{cbv;refine⟨zH ?_,trivial⟩;rw[hk,ZZ,ZZ,<-xZ,<-xZ,hX];simp[enc,mR,Vo,F8,yW,zL];rfl};{cbv;exact⟨z8 (by simp[zA,jJ]),trivial⟩};{exact trivial};{cbv;exact zS (yW (by simp[zA,jJ]))}
end Go.Proofs.YtaeaffgjdcigoaaGreat
