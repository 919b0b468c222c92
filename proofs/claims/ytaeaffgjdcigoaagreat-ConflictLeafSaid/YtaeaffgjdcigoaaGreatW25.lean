/- A part of the proof: RwE, DvB, DvC, SoA, RoE, CoA. -/
import Derived.Test.YtaeaffgjdcigoaaGreatW24
import Derived.Test.YtaeaffgjdcigoaaGreatW22
import Derived.Test.YtaeaffgjdcigoaaGreatW21
import Derived.Laws.StructEq
import Derived.ChangeKeysEq
set_option linter.all false
namespace Go.Proofs.YtaeaffgjdcigoaaGreat
open Go
set_option maxRecDepth 100000
set_option maxHeartbeats 2000000
theorem DA {vars:Int}:∀ {l:List (Int×R)} {p:Int},vT vars p l=true->l.length=0\/(l.length:Int)<=vars-1-p
 |[],_,_=>.inl rfl
 |t::r,p,h=>by rw[YP] at h;simp only[yP,decide_eq_true_eq] at h;have:=DA h.2;simp only[rK];omega
theorem nP {a:A}{vars:Int}(h:a.valid vars=true)(hv:0<=vars):(a.ts.length:Int)<=vars:=by unfold A.valid at h;simp only[yP] at h;have:=DA h.1;omega
theorem UC:∀ {l:List A} {k:Int} {a:A},vU k l=true->a∈l->∃ j:Nat,j<l.length/\a.valid (k+j)=true
 |f::r,k,a,h,ha=>by rw[H1,yP] at h;rcases yG.1 ha with rfl|ha;{exact⟨0,by simp,by simpa using h.1⟩};{obtain⟨j,h1,h2⟩:=UC h.2 ha;exact⟨j+1,by simpa using h1,by rw[show k+((j+1:Nat):Int)=k+1+j by omega];exact h2⟩}
structure Qry.vok (q:Qry):Prop where
 n1:1<=q.g.n
 n2:q.g.n<=256
 ul:q.g.us.length<=1024
 ol:q.g.os.length<=256
 rl:q.r.rows.length<=256
 lo:(q.r.lo.length:Int)=q.g.n
 hi:(q.r.hi.length:Int)=q.g.n
 up:∀ a,a∈q.g.us->a.ts.length<=2000
 op:∀ a,a∈q.g.os->a.ts.length<=2000
 rp:∀ a,a∈q.r.rows->a.ts.length<=2000
theorem Qry.vok_of {q:Qry}(h:q.valid=true):q.vok:=by unfold Qry.valid Grp.valid Reg.valid at h;simp only[yP,decide_eq_true_eq,pA] at h;obtain⟨⟨⟨⟨h1,h2⟩,h3⟩,⟨h4,h5⟩,h6⟩,h7⟩:=h;refine⟨h1.1,h1.2.1,h1.2.2.1,h1.2.2.2.2,h4.2.2.2.2,h4.2.2.1,h4.2.2.2.1,λa ha=>?_,λa ha=>?_,λa ha=>?_⟩;{obtain⟨j,g1,g2⟩:=UC h2 ha;have:=nP g2 oM;omega};{have:=nP (h3 a ha) (by unfold Grp.vars;omega);unfold Grp.vars at this;omega};{have:=nP (h6 a ha) oM;omega}
def Scp.fm (s:Scp) (r:Row):Option F :=
 if r.k<1\/14<=r.k\/s.q.valid=false then none else if r.k<=4 then s.fIn r else s.fUn r
theorem bM {k:Int}{len:Nat}{K:Nat->Prop}(j:Nat)(hk:k=(j:Int))(hj:j<len)(hK:K j):AtOk (λ_=>k) len K:=⟨⟨j,hk,hj,hK⟩⟩
theorem Sk (s:Scp)(r:Row)(hs:s.sz (2^28)):zC 230 [sv s,rwv r] (.tup [fv ((s.fm r).getD F.zero),zL ((s.fm r).isSome)]):=by
 refine sF Tryz.f230 ?_;have cv:=mL s.q (hs.q.mono (by decide));have cin:=M4 s r hs;have cun:=λ(h:s.q.valid=true)=>MZ s r hs (Qry.vok_of h).n1 (Qry.vok_of h).n2 (Qry.vok_of h).ul (Qry.vok_of h).up;have f0:r.k<1->s.fm r=none:=λh=>if_pos (.inl h);have f1:14<=r.k->s.fm r=none:=λh=>if_pos (.inr (.inl h));have f2:s.q.valid=false->s.fm r=none:=λh=>if_pos (.inr (.inr h));have f3:s.q.valid=true->1<=r.k->r.k<=4->s.fm r=s.fIn r:=λh h1 h2=>by unfold Scp.fm;rw[if_neg (by rw[h];simp;omega),if_pos h2]
 have f4:s.q.valid=true->5<=r.k->r.k<14->s.fm r=s.fUn r:=λh h1 h2=>by unfold Scp.fm;rw[if_neg (by rw[h];simp;omega),if_neg oM]
 obtain⟨o,ho⟩:∃ o,o=s.fm r:=⟨_,rfl⟩;rw[<-ho] at f0 f1 f2 f3 f4 ⊢;obtain⟨W,hW⟩:∃ W,W=fA (o.getD F.zero):=⟨_,rfl⟩;obtain⟨b,hb⟩:∃ b,b=o.isSome:=⟨_,rfl⟩;rw[show fv (o.getD F.zero)=av W by rw[hW],<-hb];have fin1:o=none->W=⟨[],R0⟩/\b=false:=λh=>by rw[h] at hW hb;exact⟨hW.trans uU,hb⟩
 obtain⟨wt,w1,w2,w3⟩:=W;have fin3:o=none->wt=[]/\w1=false/\w2=[]/\w3=[]/\b=false:=λh=>by obtain⟨h1,h2⟩:=fin1 h;simp only[A.mk.injEq,R.mk.injEq] at h1;exact⟨h1.1,h1.2.1,h1.2.2.1,h1.2.2.2,h2⟩
 clear fin1;have g3:s.q.valid=true->1<=r.k->r.k<=4->zC 272 [sv s,rwv r] (.tup [av ⟨wt,w1,w2,w3⟩,zL b]):=λh h1 h2=>by rw[hW,hb,f3 h h1 h2];exact cin
 have g4:s.q.valid=true->5<=r.k->r.k<14->zC 273 [sv s,rwv r] (.tup [av ⟨wt,w1,w2,w3⟩,zL b]):=λh h1 h2=>by rw[hW,hb,f4 h h1 h2];exact cun h
 clear hW hb f3 f4 cin cun ho;generalize s.q.valid=vd at *;cbv;refine zQ (λe1=>?_) (λe1=>?_);{cbv;obtain⟨q0,q1,q2,q3,q4⟩:=fin3 (f0 e1);subst q0 q1 q2 q3 q4;exact rA};cbv;refine zQ (λe2=>?_) (λe2=>?_);{cbv;obtain⟨q0,q1,q2,q3,q4⟩:=fin3 (f1 e2);subst q0 q1 q2 q3 q4;exact rA};cbv;refine t5 [2,3,4,6,18,16] [2,3,4,6] rfl rfl okA (cv) rfl ?_;cbv;refine zO (λe3=>?_) (λe3=>?_)
 rotate_left
 {cbv;obtain⟨q0,q1,q2,q3,q4⟩:=fin3 (f2 e3);subst q0 q1 q2 q3 q4;exact rA};cbv;clear cv f0 f1 f2 fin3;have hk:r.k=1\/r.k=2\/r.k=3\/r.k=4\/r.k=5\/r.k=6\/r.k=7\/r.k=8\/r.k=9\/r.k=10\/r.k=11\/r.k=12\/r.k=13:=by omega
 refine WC 9 [2,3,4,6] [2,3,4,6] rfl (by cbv) ?_;cbv;rcases hk with hk|hk|hk|hk|hk|hk|hk|hk|hk|hk|hk|hk|hk;{have cc:=g3 e3 oM oM;clear g3 g4;refine bM 1 hk (by decide) ?_;cbv;refine xW okA cc rfl ?_;cbv;exact rA};{have cc:=g3 e3 oM oM;clear g3 g4;refine bM 2 hk (by decide) ?_;cbv;refine xW okA cc rfl ?_;cbv;exact rA};{have cc:=g3 e3 oM oM;clear g3 g4;refine bM 3 hk (by decide) ?_;cbv;refine xW okA cc rfl ?_;cbv;exact rA};{have cc:=g3 e3 oM oM;clear g3 g4;refine bM 4 hk (by decide) ?_;cbv;refine xW okA cc rfl ?_;cbv;exact rA};{have cc:=g4 e3 oM oM;clear g3 g4;refine bM 5 hk (by decide) ?_;cbv;refine xW okA cc rfl ?_;cbv;exact rA};{have cc:=g4 e3 oM oM;clear g3 g4;refine bM 6 hk (by decide) ?_;cbv;refine xW okA cc rfl ?_;cbv;exact rA};{have cc:=g4 e3 oM oM;clear g3 g4;refine bM 7 hk (by decide) ?_;cbv;refine xW okA cc rfl ?_;cbv;exact rA};{have cc:=g4 e3 oM oM;clear g3 g4;refine bM 8 hk (by decide) ?_;cbv;refine xW okA cc rfl ?_;cbv;exact rA};{have cc:=g4 e3 oM oM;clear g3 g4;refine bM 9 hk (by decide) ?_;cbv;refine xW okA cc rfl ?_;cbv;exact rA};{have cc:=g4 e3 oM oM;clear g3 g4;refine bM 10 hk (by decide) ?_;cbv;refine xW okA cc rfl ?_;cbv;exact rA};{have cc:=g4 e3 oM oM;clear g3 g4;refine bM 11 hk (by decide) ?_;cbv;refine xW okA cc rfl ?_;cbv;exact rA};{have cc:=g4 e3 oM oM;clear g3 g4;refine bM 12 hk (by decide) ?_;cbv;refine xW okA cc rfl ?_;cbv;exact rA};{have cc:=g4 e3 oM oM;clear g3 g4;refine bM 13 hk (by decide) ?_;cbv;refine xW okA cc rfl ?_;cbv;exact rA}
theorem p5 {c:Rat}{k n m:Nat}(hc:Fits m c):∀ {a b:List (Int×Rat)},(∀ t,t∈a->Fits k t.2)->(∀ t,t∈b->Fits n t.2)->∀ u,u∈mrg c a b->Fits (k+n+m+1) u.2
 |[],[],_,_,u,h=>by rw[mrg] at h;exact absurd h (by simp)| a::aa,[],ha,hb,u,h=>by rw[mrg] at h;rcases qL h with rfl|h;{exact (ha a wI).mono oM};{exact p5 hc (λt ht=>ha t (wJ _ ht)) hb u h}
 |[],b::bb,ha,hb,u,h=>by rw[mrg] at h;rcases qL h with rfl|h;{exact (y8 (hb b wI) hc).mono oM};{exact p5 hc ha (λt ht=>hb t (wJ _ ht)) u h}
 |a::aa,b::bb,ha,hb,u,h=>by rw[mrg] at h;split at h;{rcases qL h with rfl|h;{exact (ha a wI).mono oM};{exact p5 hc (λt ht=>ha t (wJ _ ht)) hb u h}};{split at h;{rcases qL h with rfl|h;{exact (y8 (hb b wI) hc).mono oM};{exact p5 hc ha (λt ht=>hb t (wJ _ ht)) u h}};{rcases qL h with rfl|h;{exact (kC (ha a wI) (y8 (hb b wI) hc)).mono oM};{exact p5 hc (λt ht=>ha t (wJ _ ht)) (λt ht=>hb t (wJ _ ht)) u h}}}
termination_by a b=>a.length+b.length
structure F.fl (f:F) (k n:Nat):Prop where
 t:∀ t,t∈f.ts->Fits k t.2
 c:Fits k f.c
 len:f.ts.length<=n
theorem F.fl.fit {f:F}{k n:Nat}(h:f.fl k n)(hn:n<2^38):f.fit k:=⟨⟨xP h.len hn,h.t⟩,h.c⟩
theorem F.fl.mono {f:F}{k n k' n':Nat}(h:f.fl k n)(hk:k<=k')(hn:n<=n'):f.fl k' n':=⟨λt ht=>(h.t t ht).mono hk,h.c.mono hk,vL h.len hn⟩
theorem F.fl.merge {f g:F}{c:Rat}{k n k' n' m:Nat}(hf:f.fl k n)(hg:g.fl k' n')(hc:Fits m c):(f.merge g c).fl (k+k'+m+1) (n+n') :=
 ⟨p5 hc hf.t hg.t,(kC hf.c (y8 hg.c hc)).mono oM,vL (aN _ _ _) (Nat.add_le_add hf.len hg.len)⟩
theorem zero_fl:F.zero.fl 1 0:=⟨λt ht=>absurd ht (by simp[F.zero]),uL (by decide),yD _⟩
theorem gW (v:Int):(F.var v).fl 1 1:=⟨(tF v).t.fit,(tF v).c,yD _⟩
theorem u6 {k:Nat}{q:Rat}(h:Fits k q):(F.num q).fl k 0:=⟨(cO h).t.fit,h,yD _⟩
theorem F.fl.add {f g:F}{k n k' n':Nat}(hf:f.fl k n)(hg:g.fl k' n'):(f.add g).fl (k+k'+2) (n+n'):=(hf.merge hg fits_one).mono oM (yD _)
theorem F.fl.sub {f g:F}{k n k' n':Nat}(hf:f.fl k n)(hg:g.fl k' n'):(f.sub g).fl (k+k'+2) (n+n'):=(hf.merge hg wK).mono oM (yD _)
theorem F.fl.scale {f:F}{c:Rat}{k n m:Nat}(hf:f.fl k n)(hc:Fits m c):(f.scale c).fl (k+m+2) n:=(F.fl.merge zero_fl hf hc).mono oM oM
theorem A.sz.fl {a:A}{k n:Nat}(h:a.sz k)(hk:1<=k)(hn:a.ts.length<=n):a.f.fl k n:=⟨(h.t.fit hk).fit,h.c.fits hk,by show (tq a.ts).length<=n;unfold tq;rw[y4];exact hn⟩
theorem Mp {s:Scp}{r:Row}{k:Nat}{f:F}(hs:s.sz k)(hk:1<=k)(hv:s.q.vok)(h:s.fIn r=some f):f.fl (16*k) 5000:=by
 unfold Scp.fIn at h;split at h
 ·split at h
  ·cases hx:s.q.r.lo[r.i.toNat]? with
   |none=>rw[hx] at h;cases h
   |some x =>
    rw[hx] at h;cases h;exact ((gW r.i).sub (u6 ((hs.q.r.lo.sz x (z3 hx)).fits hk))).mono oM oM
  ·split at h
   ·cases hx:s.q.r.hi[r.i.toNat]? with
    |none=>rw[hx] at h;cases h
    |some x =>
     rw[hx] at h;cases h;exact ((u6 ((hs.q.r.hi.sz x (z3 hx)).fits hk)).sub (gW r.i)).mono oM oM
   ·split at h
    ·cases hx:s.q.r.rows[r.i.toNat]? with
     |none=>rw[hx] at h;cases h
     |some x =>
      rw[hx] at h;cases h;have hm:=z3 hx;exact (((hs.q.r.rows.sz x hm).fl hk (hv.rp x hm)).add zero_fl).mono oM oM
    ·split at h
     ·cases hx:s.path[r.i.toNat]? with
      |none=>rw[hx] at h;cases h
      |some d =>
       rw[hx] at h;simp only at h;have b1:=(gW d.i).sub (u6 ((hs.path.sz d (z3 hx)).fits hk));split at h;{split at h;{cases h;exact b1.mono oM oM};{split at h;{cases h;exact (b1.scale wK).mono oM oM};{cases h}}};{cases h}
     {cases h}
 {cases h}
theorem Pv {s:Scp}{r:Row}{p v:F}{l u:Option Rat}{k:Nat}{f:F}(hk:1<=k)(hp:p.fl k 2000)(hv:v.fl 1 1)(hl:Fits k (l.getD 0))(hu:Fits k (u.getD 0))(h:unF s r p v l u=some f):f.fl (16*k) 5000:=by
 unfold unF at h;generalize l.getD 0=lq at *;generalize u.getD 0=uq at *;have two:∀ {c:Prop} [Decidable c] {x:F},(if c then some x else none)=some f->x=f:=λh=>by split at h;{exact kF h};{cases h}
 split at h;{rw[<-two h];exact hv.mono oM oM};split at h;{rw[<-two h];exact (hv.sub hp).mono oM oM};split at h;{rw[<-two h];exact (hp.add zero_fl).mono oM oM};split at h;{rw[<-two h];exact (hp.sub hv).mono oM oM};split at h;{rw[<-two h];exact (hp.scale wK).mono oM oM};split at h;{rw[<-two h];exact (hv.scale wK).mono oM oM};split at h;{rw[<-two h];exact (hp.sub (u6 hl)).mono oM oM};split at h;{rw[<-two h];exact ((u6 hu).sub hp).mono oM oM};split at h;{rw[<-two h];exact (((hp.sub (u6 hl)).scale hu).sub (hv.scale (uC hu hl))).mono oM oM};{cases h}
theorem Mn {s:Scp}{r:Row}{k:Nat}{f:F}(hs:s.sz k)(hk:1<=k)(hv:s.q.vok)(h:s.fUn r=some f):f.fl (16*k) 5000:=by
 unfold Scp.fUn at h;split at h
 ·cases hx:s.q.g.us[r.i.toNat]? with
  |none=>rw[hx] at h;cases h
  |some p =>
   rw[hx] at h;have hm:=z3 hx;exact Pv hk ((hs.q.g.us.sz p hm).fl hk (hv.up p hm)) (gW _) (ZY hs.lems hk _ _ _) (ZY hs.lems hk _ _ _) h
 {cases h}
theorem Bv {s:Scp}{r:Row}{k:Nat}{f:F}(hs:s.sz k)(hk:1<=k)(h:s.fm r=some f):f.fl (16*k) 5000:=by
 unfold Scp.fm at h;split at h;{cases h}
 ·rename_i hn;have hv:s.q.valid=true:=by
   cases hx:s.q.valid with
   |true=>rfl| false=>exact absurd (.inr (.inr hx)) hn
  split at h;{exact Mp hs hk (Qry.vok_of hv) h};{exact Mn hs hk (Qry.vok_of hv) h}
def sumL (s:Scp):F->List Mult->Option F
 |acc,[]=>some acc
 |acc,m::r=>match s.fm m.row with
  |none=>none| some f=>sumL s (acc.add (f.scale m.c.q)) r
def Scp.sum (s:Scp) (l:List Mult):Int×F:=if qH none l=false then (1,F.zero) else match sumL s F.zero l with
 |none=>(12,F.zero)| some f=>(0,f)
theorem UJ {s:Scp}{k:Nat}(hs:s.sz k)(hk:8<=k):∀ {l:List Mult} {acc f:F} {a n:Nat},(∀ m,m∈l->m.c.sz (8*k))->acc.fl a n->sumL s acc l=some f->f.fl (a+25*k*l.length) (n+5000*l.length)
 |[],acc,f,a,n,_,ha,h=>by cases h;simpa using ha
 |m::r,acc,f,a,n,hm,ha,h=>by
  unfold sumL at h;cases hx:s.fm m.row with
  |none=>rw[hx] at h;cases h
  |some g =>
   rw[hx] at h;have h1:=(Bv hs oM hx).scale ((hm m wI).fits oM);have h2:=UJ hs hk (λm' hm'=>hm m' (wJ _ hm')) ((ha.add h1).mono (show _<=a+25*k by omega) (yD _)) h;refine h2.mono ?_ ?_;{rw[rK,qS,tV];omega};{rw[rK];omega}
theorem D7 (s:Scp)(l:List Mult)(hs:s.sz (2^20))(hl:Msz (2^23) l)(hn:l.length<=100):zC 188 [sv s,mlv l] (.tup [fv (s.sum l).2,iV ((s.sum l).1)]):=by
 refine sF Tryz.f188 ?_;have cc:=Tu l (hl.mono (by decide));have cf:=λr=>Sk s r (hs.mono (by decide));have h0:qH none l=false->s.sum l=(1,F.zero):=λh=>if_pos h;have h1:qH none l=true->sumL s F.zero l=none->s.sum l=(12,F.zero):=λh g=>by unfold Scp.sum;rw[if_neg (by rw[h];decide),g]
 have h2:∀ f,qH none l=true->sumL s F.zero l=some f->s.sum l=(0,f):=λf h g=>by unfold Scp.sum;rw[if_neg (by rw[h];decide),g]
 obtain⟨W,hW⟩:∃ W,W=fA (s.sum l).2:=⟨_,rfl⟩;obtain⟨e,he⟩:∃ e,e=(s.sum l).1:=⟨_,rfl⟩;rw[show fv (s.sum l).2=av W by rw[hW],<-he];have g0:qH none l=false->W=⟨[],R0⟩/\e=1:=λh=>by rw[h0 h] at hW he;exact⟨hW.trans uU,he⟩
 have g1:qH none l=true->sumL s F.zero l=none->W=⟨[],R0⟩/\e=12:=λh g=>by rw[h1 h g] at hW he;exact⟨hW.trans uU,he⟩
 have g2:∀ f,qH none l=true->sumL s F.zero l=some f->W=fA f/\e=0:=λf h g=>by rw[h2 f h g] at hW he;exact⟨hW,he⟩
 clear h0 h1 h2 hW he;have hll:l.length<2^38:=hl.len;have hsn:∀ acc m r,sumL s acc (m::r)=match s.fm m.row with
  |none=>none| some f=>sumL s (acc.add (f.scale m.c.q)) r:=λ_ _ _=>rfl
 have hfl:∀ r f,s.fm r=some f->f.fl (2^24) 5000:=λr f h=>(Bv hs (by decide) h).mono (by decide) oM;have hms:=hl.sz;obtain⟨T,hT⟩:∃ T:F->List Mult->Option F,sumL s=T:=⟨_,rfl⟩;have hTn:∀ acc,T acc []=some acc:=λacc=>by rw[<-hT];rfl
 rw[hT] at hsn g1 g2;generalize qH none l=cn at *;clear hT hs hl;cbv;refine t5 [1,2,4,11] [2,4] rfl rfl okA (cc) rfl ?_;cbv;refine zO (λe1=>?_) (λe1=>?_)
 rotate_left
 {cbv;obtain⟨q1,q2⟩:=g0 e1;subst q1 q2;exact rA};have g1':=g1 e1;have g2':=λf=>g2 f e1;clear g0 g1 g2 cc;cbv;refine z7 (σ:=Nat×F) (λst=>⟨[(2,.ptr 2 0),(4,.ptr 4 0),(6,.ptr 6 0),(15,mlv l),(16,iV l.length),(17,iV st.1)],[(2,.box (sc s)),(4,.box [.nil,.ff,.nil,.nil]),(6,.box [tsv (fA st.2).ts,zL ((fA st.2).c.neg),nat (fA st.2).c.num,nat (fA st.2).c.den])]⟩)
  (λst=>st.1<=l.length/\T F.zero l=T st.2 (l.drop st.1)/\st.2.fl (1+2^25*st.1) (5000*st.1)) (λst=>l.length-st.1)
  (0,F.zero) ⟨om,rfl,zero_fl⟩ (.le ?_ ?_ rfl) ?_
 {cbv;exact⟨lR,lR,lR,lR,zB (by (try dsimp only [zV] at *);rw[zA]),lR,trivial⟩};{show leO _ [(2,.box (sc s)),(4,.box [.nil,.ff,.nil,.nil]),(6,.box [tsv (fA F.zero).ts,zL ((fA F.zero).c.neg),nat (fA F.zero).c.num,nat (fA F.zero).c.den])];rw[uU];cbv;exact okA};intro st hst;obtain⟨h1,hv,ha⟩:=hst;generalize st.1=i at *;generalize st.2=acc at *;obtain⟨V,hV⟩:=ex (fA acc);simp only[hV];cbv;refine zF (λh5=>?_) (λh5=>?_)
 ·(have hlt:i<l.length:=by exact om);obtain⟨m,hm⟩:=zS hlt
  have hmem:=z3 hm;rw[zY hm,hsn] at hv;have cfm:=cf m.row;have hmc:=hms m hmem;have hxf:∀ f,s.fm m.row=some f->f.fl (2^24) 5000:=λf h=>hfl m.row f h;generalize hx:s.fm m.row=o at *;have idx:∀ {K:List PV->Prop},K (mc m)->IdxOk 7 (λ_=>enc mc l) (λ_=>(i:Int)) K:=λhK=>xQ (l:=l) i rfl hlt vA xS (λm' hm'=>by rw[hm] at hm';cases hm';exact hK);clear cf;cases o with
  |none =>
   (have hv':T F.zero l=none:=hv;obtain⟨q1,q2⟩:=g1' hv';have cfm':zC 230 [sv s,rwv m.row] (.tup [av ⟨[],R0⟩,zL false]):=by have h:zC 230 [sv s,rwv m.row] (.tup [av (fA F.zero),zL false]):=cfm;rw[uU] at h;exact h);clear cfm hv hv' g1' g2';subst q1 q2;cbv;refine idx ?_;cbv;refine t5 [2,4,6,8,15,16,17,22,24] [2,4,6,8] rfl rfl okA (cfm') rfl ?_;cbv;refine zO (λe=>absurd e (by decide)) (λ_=>?_);cbv;exact rA
  |some f =>
   have hv':T F.zero l=T (acc.add (f.scale m.c.q)) (l.drop (i+1)):=hv;have hf:=hxf f rfl;have b1:=hf.scale (hmc.fits (by decide));have b2:=ha.add b1;have cs:=mO (fA f) m.c ((hf.fit (by decide)).fA.mono (by decide)) (hmc.mono (by decide));rw[qG] at cs;have ca:=J7 (fA acc) (fA (f.scale m.c.q)) ((ha.fit oM).fA.mono oM) ((b1.fit (by decide)).fA.mono (by decide));rw[qG,qG] at ca;have hacc:(acc.add (f.scale m.c.q)).fl (1+2^25*(i+1)) (5000*(i+1)):=b2.mono oM oM;have cfm':zC 230 [sv s,rwv m.row] (.tup [av (fA f),zL true]):=cfm;clear cfm hv hxf b1 b2 ha;dsimp only [fv] at cs ca;rw[hV] at ca;generalize hA':acc.add (f.scale m.c.q)=acc' at *;obtain⟨V',hV'⟩:=ex (fA acc');rw[hV'] at ca;generalize fA (f.scale m.c.q)=X at *;generalize fA f=Y at *;cbv;refine idx ?_;cbv;refine t5 [2,4,6,8,15,16,17,22,24] [2,4,6,8] rfl rfl okA (cfm') rfl ?_;cbv;refine zO (λ_=>?_) (λe=>absurd e (by decide));cbv;refine WC 6 [2,4,6,8,9,15,16,17] [2,4,6,8,9] rfl (by cbv) ?_;cbv;refine dA cs ?_;cbv;refine dA ca ?_;cbv;refine⟨zD om om,(i+1,acc'),⟨om,hv',hacc⟩,om,.le ?_ ?_ rfl⟩;{cbv;exact⟨lR,lR,lR,lR,lR,zB om,trivial⟩};{show leO _ [(2,.box (sc s)),(4,.box [.nil,.ff,.nil,.nil]),(6,.box [tsv (fA acc').ts,zL ((fA acc').c.neg),nat (fA acc').c.num,nat (fA acc').c.den])];rw[hV'];cbv;exact okA}
 ·(have hi:i=l.length:=by exact om);rw[hi,vE,hTn] at hv
  obtain⟨q1,q2⟩:=g2' acc hv;rw[hV] at q1;clear g1' g2' hv;subst q1 q2;cbv;exact rA
theorem Scp.sum_fl {s:Scp}{l:List Mult}(hs:s.sz (2^20))(hl:Msz (2^23) l)(hn:l.length<=100):(s.sum l).2.fl (2^32) 500000:=by
 unfold Scp.sum;split;{exact zero_fl.mono (by decide) oM}
 ·cases hx:sumL s F.zero l with
  |none=>exact zero_fl.mono (by decide) oM| some f=>exact (UJ hs (by decide) (λm hm=>(hl.sz m hm).mono (by decide)) zero_fl hx).mono oM oM
def Scp.proves (s:Scp) (f:A) (l:List Mult):Bool:=decide ((s.sum l).1=0)&&(f.valid 9223372036854775807&&(decide ((f.f.sub (s.sum l).2).ts.length=0)&&decide (0<=yA (f.f.sub (s.sum l).2).c)))
theorem VK (s:Scp)(f:A)(l:List Mult)(hs:s.sz (2^20))(hf:f.sz (2^32))(hl:Msz (2^23) l)(hn:l.length<=100):zC 139 [sv s,av f,mlv l] (zL (s.proves f l)):=by
 refine sF Tryz.f139 ?_;have cs:=D7 s l hs hl hn;have cv:=mN f 9223372036854775807 (hf.mono (by decide));have fl:=Scp.sum_fl hs hl hn;have cb:=sO f (fA (s.sum l).2) (hf.mono (by decide)) ((fl.fit (by decide)).fA.mono (by decide));rw[qG] at cb;have ff:=(hf.fit (by decide):f.f.fit (2^32));have fr:Fits (2^34) (f.f.sub (s.sum l).2).c:=(kC ff.c (y8 fl.c wK)).mono (by decide);have cg:=s86 (zI (f.f.sub (s.sum l).2).c) (xP (zU fr).n (by decide));rw[z6] at cg;have hr:s.proves f l=(decide ((s.sum l).1=0)&&(f.valid 9223372036854775807&&(decide ((tR (f.f.sub (s.sum l).2).ts).length=0)&&decide (0<=yA (f.f.sub (s.sum l).2).c)))):=by rw[vD];rfl
 rw[hr];dsimp only [fv] at cs cb;have e1:fA (f.f.sub (s.sum l).2)=⟨tR (f.f.sub (s.sum l).2).ts,zI (f.f.sub (s.sum l).2).c⟩:=rfl;rw[e1] at cb;clear hr e1 fl ff fr hf hs hl;generalize yA (f.f.sub (s.sum l).2).c=sg at *;generalize zI (f.f.sub (s.sum l).2).c=C at *;generalize tR (f.f.sub (s.sum l).2).ts=T at *;generalize fA (s.sum l).2=V at *;generalize (s.sum l).1=e at *;generalize f.valid 9223372036854775807=vd at *;cbv;refine t5 [2,3,4,11,12] [3,4] rfl rfl okA (cs) rfl ?_;cbv;refine zQ (λh=>?_) (λh=>?_)
 ·cbv;refine cA cv ?_;cbv;refine zO (λh2=>?_) (λh2=>?_)
  ·cbv;refine t5 [23,24] [] rfl rfl okA (cb) rfl ?_;cbv;refine zQ (λh3=>?_) (λh3=>?_)
   ·cbv;refine cA cg ?_;cbv
    (refine rC ?_;cbv)
    refine zX ?_;rw[decide_eq_true h,h2,decide_eq_true (p:=T.length=0) (by rw[zA] at h3;exact om)];simp
   ·cbv
    (refine rC ?_;cbv)
    refine zK ?_;rw[decide_eq_false (p:=T.length=0) (by rw[zA] at h3;exact om)];simp
  ·cbv
   (refine rC ?_;cbv)
   exact zK (by rw[h2];simp)
 ·cbv
  (refine rC ?_;cbv)
  exact zK (by rw[decide_eq_false h];rfl)
def Scp.refutes (s:Scp) (l:List Mult):Bool:=decide ((s.sum l).1=0)&&(decide ((s.sum l).2.ts.length=0)&&decide (yA (s.sum l).2.c<0))
theorem J9 (s:Scp)(l:List Mult)(hs:s.sz (2^20))(hl:Msz (2^23) l)(hn:l.length<=100):zC 138 [sv s,mlv l] (zL (s.refutes l)):=by
 refine sF Tryz.f138 ?_;have cs:=D7 s l hs hl hn;have fl:=Scp.sum_fl hs hl hn;have cg:=s86 (zI (s.sum l).2.c) (xP (zU fl.c).n (by decide));rw[z6] at cg;have hr:s.refutes l=(decide ((s.sum l).1=0)&&(decide ((tR (s.sum l).2.ts).length=0)&&decide (yA (s.sum l).2.c<0))):=by rw[vD];rfl
 rw[hr];dsimp only [fv] at cs;have e1:fA (s.sum l).2=⟨tR (s.sum l).2.ts,zI (s.sum l).2.c⟩:=rfl;rw[e1] at cs;clear hr e1 fl hs hl;generalize yA (s.sum l).2.c=sg at *;generalize zI (s.sum l).2.c=C at *;generalize tR (s.sum l).2.ts=T at *;generalize (s.sum l).1=e at *;cbv;refine t5 [8,9] [] rfl rfl okA (cs) rfl ?_;cbv;refine zQ (λh=>?_) (λh=>?_)
 ·cbv;refine zQ (λh3=>?_) (λh3=>?_)
  ·cbv;refine cA cg ?_;cbv
   (refine rC ?_;cbv)
   refine zX ?_;rw[decide_eq_true h,decide_eq_true (p:=T.length=0) (by rw[zA] at h3;exact om)];simp
  ·cbv
   (refine rC ?_;cbv)
   refine zK ?_;rw[decide_eq_false (p:=T.length=0) (by rw[zA] at h3;exact om)];simp
 ·cbv
  (refine rC ?_;cbv)
  exact zK (by rw[decide_eq_false h];rfl)
def Lem.form (m:Lem) (p:F):F:=if m.up=true then (p.sub (F.num m.v.q)).scale (-1) else p.sub (F.num m.v.q)
def Scp.lemB (s:Scp) (m:Lem):Bool:=decide (0<=m.u/\m.u<s.q.g.us.length)&&(m.v.ok&&(s.q.valid&&match s.q.g.us[m.u.toNat]? with
 |some p=>s.proves (fA (m.form p.f)) m.pf| none=>false))
theorem Rh {m:Lem}{p:F}{k n:Nat}(hp:p.fl k n)(hm:Fits k m.v.q):(m.form p).fl (2*k+6) n:=by unfold Lem.form;split;{exact ((hp.sub (u6 hm)).scale wK).mono oM oM};{exact (hp.sub (u6 hm)).mono oM oM}
theorem D8 (s:Scp)(m:Lem)(hs:s.sz (2^20))(hm:m.v.sz (2^20))(hl:Msz (2^20) m.pf)(hn:m.pf.length<=100):zC 137 [sv s,lv' m] (zL (s.lemB m)):=by
 refine sF Tryz.f137 ?_;have cvd:=Hd m.v (hm.mono (by decide));have crv:=mL s.q (hs.q.mono (by decide));have hno:¬(0<=m.u/\m.u<s.q.g.us.length)->s.lemB m=false:=λh=>by unfold Scp.lemB;rw[decide_eq_false h];rfl
 have hno2:m.v.ok=false->s.lemB m=false:=λh=>by unfold Scp.lemB;rw[h];simp
 have hno3:s.q.valid=false->s.lemB m=false:=λh=>by unfold Scp.lemB;rw[h];simp
 have hyes:∀ p,0<=m.u->m.u<s.q.g.us.length->m.v.ok=true->s.q.valid=true->s.q.g.us[m.u.toNat]?=some p->s.lemB m=s.proves (fA (m.form p.f)) m.pf:=λp h1 h2 h3 h4 h5=>by unfold Scp.lemB;rw[decide_eq_true ⟨h1,h2⟩,h3,h4,h5];rfl
 have hcs:∀ p,p∈s.q.g.us->zC 185 [av p,av ⟨[],m.v⟩] (fv (p.f.sub (F.num m.v.q))):=λp hp =>
  sO p ⟨[],m.v⟩ ((hs.q.g.us.sz p hp).mono (by decide)) ⟨⟨by show 0<2^38;decide,λ_ h=>absurd h (by simp)⟩,hm.mono (by decide)⟩
 have fsub:∀ p,p∈s.q.g.us->(p.f.sub (F.num m.v.q)).fit (2^22):=λp hp =>
  (UK ((hs.q.g.us.sz p hp).fit (by decide)) (cO (hm.fits (by decide))) (by show (tq p.ts).length+0<2^38;unfold tq;rw[y4];exact (hs.q.g.us.sz p hp).t.len)).mono (by decide)
 have hcm:∀ p,p∈s.q.g.us->zC 186 [av (fA (p.f.sub (F.num m.v.q))),rv (zI ((-1:Int):Rat))] (fv ((p.f.sub (F.num m.v.q)).scale (-1))):=λp hp=>by have:=mO (fA (p.f.sub (F.num m.v.q))) (zI ((-1:Int):Rat)) ((fsub p hp).fA.mono (by decide)) ((oS (-1) (by decide) (by decide)).mono (by decide));rw[qG,z6] at this;exact this
 have hcp:∀ p,p∈s.q.g.us->zC 139 [sv s,av (fA (m.form p.f)),mlv m.pf] (zL (s.proves (fA (m.form p.f)) m.pf)):=λp hp =>
  VK s (fA (m.form p.f)) m.pf hs (by
   have fs:=fsub p hp;unfold Lem.form;split;{exact ((nT fs wK (by decide)).fA).mono (by decide)}
   ·exact fs.fA.mono (by decide)) (hl.mono (by decide)) hn
 have c1:=Cd (-1) (by decide) (by decide);have hul:=hs.q.g.us.len;generalize hres:s.lemB m=res at *;generalize m.v.ok=ok at *;generalize hvd:s.q.valid=vd at *;clear hres hs hm hl fsub;cbv;refine zQ (λe1=>?_) (λe1=>?_)
 ·cbv
  (refine rC ?_;cbv)
  exact zK (hno om)
 cbv;refine zQ (λe2=>?_) (λe2=>?_)
 ·cbv
  (refine rC ?_;cbv)
  exact zK (hno (by rw[zA] at e2;exact om))
 rw[zA] at e2;cbv;refine t5 [2,3,4,13,19,21] [2,3] rfl rfl okA (cvd) rfl ?_;cbv;refine yB (λe3=>?_) (λe3=>?_)
 rotate_left
 ·cbv
  (refine rC ?_;cbv)
  exact zK (hno2 e3)
 cbv;refine t5 [2,3,4,19,25,27] [2,3] rfl rfl okA (crv) rfl ?_;cbv;refine zO (λe4=>?_) (λe4=>?_)
 rotate_left
 ·cbv
  (refine rC ?_;cbv)
  exact zK (hno3 e4)
 obtain⟨p,hp⟩:∃ p,s.q.g.us[m.u.toNat]?=some p:=zS (by exact om);have hmem:=z3 hp;have hr:=hyes p (by exact om) (by exact om) e3 e4 hp;have cs:=hcs p hmem;have cm:=hcm p hmem;have cp:=hcp p hmem;rw[<-hr] at cp;have idx:∀ {K:List PV->Prop},K (ac p)->IdxOk 4 (λ_=>enc ac s.q.g.us) (λ_=>m.u) K:=λhK=>xQ (l:=s.q.g.us) m.u.toNat (by exact om) (by exact om) j7 cJ (λm' hm'=>by rw[hp] at hm';cases hm';exact hK);clear hcs hcm hcp hyes hno hno2 hno3 hr cvd crv;dsimp only [fv] at cs cm;generalize zI ((-1:Int):Rat)=o at *;cases hup:m.up with
 |true =>
  have ef:m.form p.f=(p.f.sub (F.num m.v.q)).scale (-1):=if_pos hup;rw[ef] at cp;generalize fA ((p.f.sub (F.num m.v.q)).scale (-1))=Y at *;generalize fA (p.f.sub (F.num m.v.q))=X at *;clear ef;cbv;refine WE 13 [2,3,4] [2,3] rfl (by cbv) (by cbv) ?_;cbv;refine idx ?_;cbv;refine xW okA cs rfl ?_;cbv;refine zO (λ_=>?_) (λh=>absurd h (by decide));cbv;refine WC 3 [2,3,4,5] [2,3,5] rfl (by cbv) ?_;cbv;refine dA c1 ?_;cbv;refine dA cm ?_;cbv;refine cA cp ?_;cbv;exact rA
 |false =>
  have ef:m.form p.f=p.f.sub (F.num m.v.q):=if_neg (by rw[hup];decide);rw[ef] at cp;generalize fA (p.f.sub (F.num m.v.q))=X at *;clear ef;cbv;refine WE 13 [2,3,4] [2,3] rfl (by cbv) (by cbv) ?_;cbv;refine idx ?_;cbv;refine xW okA cs rfl ?_;cbv;refine zO (λh=>absurd h (by decide)) (λ_=>?_);cbv;refine cA cp ?_;cbv;exact rA
theorem Ts (s:Scp)(d:Dec)(hq:s.q.sz (2^34))(hd:d.x.sz (2^36)):zC 136 [.agg (dc d),.dptr (sc s) 0] (zL (!(s.q.valid&&d.fits s.q))):=by
 refine sF Tryz.f136 ?_;have cf:=Gi s.q d hq hd;generalize (s.q.valid&&d.fits s.q)=b at *;cbv;refine cA cf ?_;cbv
 (refine rC ?_;cbv)
 exact yY rfl
def Scp.pre (s:Scp) (i:Nat):Scp:=⟨s.q,s.path,s.lems.take i⟩
def uP (s:Scp):Nat->List Lem->Bool
 |_,[]=>true| i,m::r=>(s.pre i).lemB m&&uP s (i+1) r
def Scp.scopeB (s:Scp):Bool:=s.q.valid&&((s.path.all λd=>s.q.valid&&d.fits s.q)&&uP s 0 s.lems)
theorem Scp.pre_sz {s:Scp}{k:Nat}(h:s.sz k)(i:Nat):(s.pre i).sz k :=
 ⟨h.q,h.path,⟨by show (s.lems.take i).length<_;rw[kX];have:=h.lems.len;omega,λa ha=>h.lems.sz a (aE ha),λa ha=>h.lems.pf a (aE ha)⟩⟩
theorem Kn (s:Scp)(hs:s.sz (2^20))(hpf:∀ m,m∈s.lems->m.pf.length<=100):zC 64 [sv s] (zL s.scopeB):=by
 refine sF Tryz.f64 ?_;have crv:=mL s.q (hs.q.mono (by decide));have cha:=R7 (λd=>!(s.q.valid&&d.fits s.q)) s.path (bQ hs.path.len (by decide)) 136 [.dptr (sc s) 0] (λd hd=>Ts s d (hs.q.mono (by decide)) ((hs.path.sz d hd).mono (by decide)));have hcl:∀ i m,m∈s.lems->zC 137 [sv (s.pre i),lv' m] (zL ((s.pre i).lemB m)):=λi m hm =>
  D8 (s.pre i) m (Scp.pre_sz hs i) (hs.lems.sz m hm) (hs.lems.pf m hm) (hpf m hm)
 have hr:s.scopeB=(s.q.valid&&(!(s.path.any λd=>!(s.q.valid&&d.fits s.q))&&uP s 0 s.lems)):=by unfold Scp.scopeB;rw[QU]
 have hll:=hs.lems.len;have hcons:∀ i m r,uP s i (m::r)=((s.pre i).lemB m&&uP s (i+1) r):=λ_ _ _=>rfl;obtain⟨LF,hLF⟩:=ex (uP s);have hnil:∀ i,LF i []=true:=λi=>by rw[<-hLF];rfl
 rw[hLF] at hr hcons;generalize s.scopeB=res at *;generalize (s.path.any λd=>!(s.q.valid&&d.fits s.q))=bad at *;generalize s.q.valid=vd at *;have hlm:∀ i m,zC 137 [sv (s.pre i),lv' m] (zL ((s.pre i).lemB m))->zC 137 [sv ⟨s.q,s.path,s.lems.take i⟩,lv' m] (zL ((s.pre i).lemB m)):=λ_ _ h=>h;clear hs hpf hLF;cbv;refine t5 [1,6] [1] rfl rfl okA (crv) rfl ?_;cbv;refine yB (λe1=>?_) (λe1=>?_)
 rotate_left
 ·cbv
  (refine rC ?_;cbv)
  exact zK (by rw[hr,e1];rfl)
 rw[e1,yW] at hr;cbv;refine qR (.trans (Wk.sel _ [1,9,11,12] [1] rfl) (.frz 1 rfl rfl (by repeat' first|exact trivial|apply And.intro) (by repeat' first|exact trivial|apply And.intro))) rfl (by exact⟨lR,⟨rfl,lR,trivial⟩,trivial⟩) cha rfl ?_;cbv;refine zO (λe2=>?_) (λe2=>?_)
 ·cbv
  (refine rC ?_;cbv)
  exact zK (by rw[hr,e2];rfl)
 rw[e2,Bool.not_false,yW] at hr;clear cha crv;cbv;refine z7 (σ:=Nat) (λi=>⟨[(1,.dptr (sc s) 0),(16,llv s.lems),(17,iV s.lems.length),(18,iV i)],[]⟩)
  (λi=>i<=s.lems.length/\res=LF i (s.lems.drop i)) (λi=>s.lems.length-i) 0 ⟨om,hr⟩ (.le ?_ ?_ rfl) ?_
 {cbv;exact⟨lR,lR,zB (by (try dsimp only [zV] at *);rw[zA]),lR,trivial⟩};{cbv};clear hr;intro i hi;obtain⟨h1,h2⟩:=hi;cbv;refine zF (λh5=>?_) (λh5=>?_)
 ·(have hlt:i<s.lems.length:=by exact om);obtain⟨m,hm⟩:=zS hlt
  have hmem:=z3 hm;rw[zY hm,hcons] at h2;have cl:=hlm i m (hcl i m hmem);generalize (s.pre i).lemB m=b at *;have idx:∀ {K:List PV->Prop},K (lc m)->IdxOk 6 (λ_=>enc lc s.lems) (λ_=>(i:Int)) K:=λhK=>xQ (l:=s.lems) i rfl hlt xB y7 (λm' hm'=>by rw[hm] at hm';cases hm';exact hK);clear hcl hlm hcons;cbv;refine idx ?_;cbv;refine zM 12 (by cbv) ?_;cbv;refine⟨vF om om (by rw[zA];exact om),xE y7 _,?_⟩;refine xW (by exact⟨⟨lR,lR,lR,lR,lR,lR,lR,lR,lR,lR,lR,zR (by simp[enc,Zu]),trivial⟩,okA,trivial⟩) cl rfl ?_;cbv;refine zO (λe3=>?_) (λe3=>?_);{rw[e3,yW] at h2;cbv;refine⟨zD om om,i+1,⟨om,h2⟩,om,.le ?_ ?_ rfl⟩;{cbv;exact⟨lR,lR,lR,zB om,trivial⟩};{cbv}}
  ·cbv
   (refine rC ?_;cbv)
   exact zK (by rw[h2,e3];rfl)
 ·(have hi':i=s.lems.length:=by exact om);rw[hi',vE,hnil] at h2
  cbv
  (refine rC ?_;cbv)
  exact yV h2
theorem kK:ty 43=.sli 7 88 [iV 0,iV 0,iV 0,iV 0,.ff,.nil,.nil]:=by cbv
theorem bN {t base x d ps K n b z xs}(ht:ty t=.sli n b z){m o len els}(hb:ev (zE ps.tmps) base=.osl m n o len)(ho:yN ps.objs m=some (.arr n els))(h0:els ()=[])(ho0:o ()=0)(hl:len ()=0)(hx:ev (zE ps.tmps) x=.sl xs)(hw:Wid n xs) (hr:Room (λ_=>((xs ()).length:Nat)) b) (hf:yQ d ⟨vZ (scr m) ps.tmps,xL (scr m) (v8 ps.objs m)⟩=true) (hK:K ⟨uA (vZ (scr m) ps.tmps) d (yX d n ((xs ()).length)),xL (scr m) (v8 ps.objs m)++[(d,.arr n xs)]⟩):AppK t base x (some d) ps K:=by
 have e1:(λ_:Unit=>(els ()).length+(xs ()).length)=λ_=>(xs ()).length:=funext λ_=>by simp[h0]
 have e2:(λ_:Unit=>els ()++xs ())=xs:=funext λ_=>by simp[h0]
 exact wM ht hb ho ho0 (by rw[hl,h0];rfl) hx hw (by simpa[h0] using hr) hf (by rw[e1,e2];exact hK)
abbrev mao (n:Nat) (l:List Mult):List (Nat×Obj'):=[(n,xF 7 (enc mc l))]
theorem Ej (l:List Mult)(hl:l.length<2^38):Sound 147 [mlv l] [] [] (yX 100 7 l.length) [] (mao 100 l):=by
 refine sF Tryz.f147 ?_;cbv;refine⟨λb hb=>?_⟩;cbv;refine zO (λh=>?_) (λh=>?_)
 ·(have hb':=hb h;have hl0:l=[]:=by have:=congrArg List.length hb';rw[zA] at this;exact kD this);cbv;subst hl0;refine tY (ps':=⟨[(2,yX 100 7 0)],[(100,xF 7 ([]))]⟩) 100 (.trans (.le (ps':=⟨[(2,.nil)],[]⟩) ?_ trivial rfl) (.adoptT (ps:=⟨[(2,.nil)],[]⟩) 100 7 2 rfl rfl)) rfl rfl rfl ?_;{cbv;exact okA};{cbv;exact zT rfl rfl}
 {cbv;refine wM kK rfl rfl rfl rfl rfl (xE xS _) (z8 om (by simp only[dO,zA];exact om)) rfl ?_;cbv;refine tY (ps':=⟨[(2,yX 7 7 l.length)],[(7,xF 7 (enc mc l))]⟩) 7 (.le ?_ ?_ rfl) rfl rfl rfl ?_;{cbv;exact⟨zT rfl (by simp[zA]),trivial⟩};{cbv;exact⟨zG rfl,trivial⟩};{cbv;exact lR}}
theorem Sh {α:Type}(p b:List α)(x y:α):((p++y::x::b).set (p.length+1) y).set p.length x=p++x::y::b:=by rw[List.set_append_right _ _ oM,List.set_append_right _ _ oM];simp[show p.length+1-p.length=1 by omega]
theorem Rl {α:Type}{p:α->List PV}{n:Nat}{els:List (List D)}{i:Nat}{K:List PV->Prop}(l:List α)(he:els=enc p l)(j:Nat)(hk:i=j)(hj:j<l.length)(hf:∀ a,yT qO (p a)=true)(hn:∀ a,(p a).length=n) (hK:∀ a,l[j]?=some a->K (p a)):ElOk n (λ_=>els) (λ_=>i) K:=by subst he;exact kQ j hk hj hf hn hK
abbrev fld (s : String) (o b : Nat) : Field := { name := s, type := 3, offset := o, embedded := false, tag := "", pkgPath := "", byteOffset := b }
theorem SF:Pg.underlying 107=some (.struct (Pg.fieldsOf 107)):=by rw[uZ];kernel_rfl
theorem Ck : (Pg.fieldsOf 107).toList = [fld "Kind" 0 0, fld "Index" 1 8, fld "Lo" 2 16, fld "Hi" 3 24] := by rw [uZ]; kernel_rfl
theorem Cj:Pg.stoodInHeld 107=false:=by rw[uZ];kernel_rfl
theorem VN:Pg.eqGuardType Pg.depth 107=false:=by rw[uZ];kernel_rfl
theorem p8:Pg.plainKey 3=true:=by rw[uZ];kernel_rfl
theorem GV:Pg.underlying 3=some (.int .i64):=by rw[uZ];kernel_rfl
abbrev oJ (a:Row):Array Value:=#[.int .i64 a.k,.int .i64 a.i,.int .i64 a.lo,.int .i64 a.hi]
theorem VO (a b:Row)(w:World):(Op.equalIn 10000 107 (.agg (oJ a)) (.agg (oJ b))).run Pg w=.ok (decide (a=b)) w:=by
 rw[show (10000:Nat)=9999+1 from rfl,run_equalIn_agg w 9999 _ _ _ SF Cj,Ck];have p0:∀ (c:Row),(part 3 (oJ c) 0).run Pg w=.ok (.int .i64 c.k) w:=λc=>run_part_plain _ p8 rfl;have p1:∀ (c:Row),(part 3 (oJ c) 1).run Pg w=.ok (.int .i64 c.i) w:=λc=>run_part_plain _ p8 rfl;have p2:∀ (c:Row),(part 3 (oJ c) 2).run Pg w=.ok (.int .i64 c.lo) w:=λc=>run_part_plain _ p8 rfl;have p3:∀ (c:Row),(part 3 (oJ c) 3).run Pg w=.ok (.int .i64 c.hi) w:=λc=>run_part_plain _ p8 rfl;have q:∀ (x y:Int),(Op.equalIn 9999 3 (.int .i64 x) (.int .i64 y)).run Pg w=.ok (x == y) w:=λx y=>run_equalIn_int w 9998 _ .i64 .i64 x y GV;have e:decide (a=b)=((a.k == b.k)&&((a.i == b.i)&&((a.lo == b.lo)&&(a.hi == b.hi)))):=by obtain⟨a1,a2,a3,a4⟩:=a;obtain⟨b1,b2,b3,b4⟩:=b;rw[r8];simp
 rw[e];simp only[Op.eqFields,Sem.run_bind,Sem.run_ite,p0,p1,p2,p3,q,Result.andThen_ok,Sem.run_pure];generalize (a.k == b.k)=x0;generalize (a.i == b.i)=x1;generalize (a.lo == b.lo)=x2;generalize (a.hi == b.hi)=x3;cases x0 <;> cases x1 <;> cases x2 <;> cases x3 <;> rfl
theorem Rk {x y:Operand}{a b:Row}{K:PV->Prop}(hK:K (zL (decide (a=b)))):EqS .eql 107 x y [.i λ_=>a.k,.i λ_=>a.i,.i λ_=>a.lo,.i λ_=>a.hi] [.i λ_=>b.k,.i λ_=>b.i,.i λ_=>b.lo,.i λ_=>b.hi] K:=by refine⟨⟨decide (a=b),λw=>?_,hK⟩⟩;show (do eqGuard .eql 107 x y (.agg (oJ a)) (.agg (oJ b));binOp .eql 107 (.agg (oJ a)) (.agg (oJ b)):Sem Value).run Pg w=_;simp only[Sem.run_bind,run_eqGuard_agg w .eql _ x y _ _ VN,Result.andThen_ok,run_eql_struct,VO]
theorem CV {x y:Operand}{a b:Row}{K:PV->Prop}(hK:K (zL (!(decide (a=b))))):EqS .neq 107 x y [.i λ_=>a.k,.i λ_=>a.i,.i λ_=>a.lo,.i λ_=>a.hi] [.i λ_=>b.k,.i λ_=>b.i,.i λ_=>b.lo,.i λ_=>b.hi] K:=by refine⟨⟨!(decide (a=b)),λw=>?_,hK⟩⟩;show (do eqGuard .neq 107 x y (.agg (oJ a)) (.agg (oJ b));binOp .neq 107 (.agg (oJ a)) (.agg (oJ b)):Sem Value).run Pg w=_;simp only[Sem.run_bind,run_eqGuard_agg w .neq _ x y _ _ VN,Result.andThen_ok,run_neq_struct,VO]
def mR (l:List (Row×Rat)):List Mult:=l.map λt=>⟨t.1,zI t.2⟩
theorem jN (l:List (Row×Rat)):(mR l).length=l.length:=by simp[mR]
theorem ZU (l m:List (Row×Rat)):mR (l++m)=mR l++mR m:=by simp[mR]
end Go.Proofs.YtaeaffgjdcigoaaGreat
