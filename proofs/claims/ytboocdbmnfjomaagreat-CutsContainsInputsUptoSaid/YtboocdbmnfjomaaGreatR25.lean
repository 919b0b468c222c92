/- A part of the proof: RwE, DvB, DvC, SoA, RoE, CoA. -/
import Derived.Test.YtboocdbmnfjomaaGreatR24
import Derived.Test.YtboocdbmnfjomaaGreatR22
import Derived.Test.YtboocdbmnfjomaaGreatR21
import Derived.Laws.StructEq
import Derived.ChangeKeysEq
set_option linter.all false
namespace Go.Proofs.YtboocdbmnfjomaaGreat
open Go
set_option maxRecDepth 100000
set_option maxHeartbeats 2000000
theorem Co {vars:Int}:∀ {l:List (Int×R)} {p:Int},vT vars p l=true->l.length=0\/(l.length:Int)<=vars-1-p
 |[],_,_=>.inl rfl
 |t::r,p,h=>by rw[oF] at h;simp only[yS,decide_eq_true_eq] at h;have:=Co h.2;simp only[d5];omega
theorem ZH {a:A}{vars:Int}(h:a.valid vars=true)(hv:0<=vars):(a.ts.length:Int)<=vars:=by unfold A.valid at h;simp only[yS] at h;have:=Co h.1;omega
theorem UW:∀ {l:List A} {k:Int} {a:A},vU k l=true->a∈l->∃ j:Nat,j<l.length/\a.valid (k+j)=true
 |f::r,k,a,h,ha=>by rw[GC,yS] at h;rcases yR.1 ha with rfl|ha;{exact⟨0,by simp,by simpa using h.1⟩};{obtain⟨j,h1,h2⟩:=UW h.2 ha;exact⟨j+1,by simpa using h1,by rw[show k+((j+1:Nat):Int)=k+1+j by omega];exact h2⟩}
structure Qry.vok (q:Qry):Prop where
 n1:1<=q.g.n
 n2:q.g.n<=256
 ul:q.g.us.length<=1024
 ol:q.g.os.length<=256
 rl:q.r.rows.length<=256
 lo:(q.r.lo.length:Int)=q.g.n
 hi:(q.r.hi.length:Int)=q.g.n
 up:∀ a,a∈q.g.us->a.ts.length<=2000
 op:∀ a,a∈q.g.os->a.ts.length<=2000
 rp:∀ a,a∈q.r.rows->a.ts.length<=2000
theorem Qry.vok_of {q:Qry}(h:q.valid=true):q.vok:=by unfold Qry.valid Grp.valid Reg.valid at h;simp only[yS,decide_eq_true_eq,gH] at h;obtain⟨⟨⟨⟨h1,h2⟩,h3⟩,⟨h4,h5⟩,h6⟩,h7⟩:=h;refine⟨h1.1,h1.2.1,h1.2.2.1,h1.2.2.2.2,h4.2.2.2.2,h4.2.2.1,h4.2.2.2.1,λa ha=>?_,λa ha=>?_,λa ha=>?_⟩;{obtain⟨j,g1,g2⟩:=UW h2 ha;have:=ZH g2 oM;omega};{have:=ZH (h3 a ha) (by unfold Grp.vars;omega);unfold Grp.vars at this;omega};{have:=ZH (h6 a ha) oM;omega}
def Scp.fm (s:Scp) (r:Row):Option F :=
 if r.k<1\/14<=r.k\/s.q.valid=false then none else if r.k<=4 then s.fIn r else s.fUn r
theorem bW {k:Int}{len:Nat}{K:Nat->Prop}(j:Nat)(hk:k=(j:Int))(hj:j<len)(hK:K j):AtOk (λ_=>k) len K:=⟨⟨j,hk,hj,hK⟩⟩
theorem GW (s:Scp)(r:Row)(hs:s.sz (2^28)):zE 35 [sv s,rwv r] (.tup [fv ((s.fm r).getD F.zero),zM ((s.fm r).isSome)]):=by
 refine sF Tryz.f35 ?_;have cv:=mS s.q (hs.q.mono (by decide));have cin:=PO s r hs;have cun:=λ(h:s.q.valid=true)=>Lf s r hs (Qry.vok_of h).n1 (Qry.vok_of h).n2 (Qry.vok_of h).ul (Qry.vok_of h).up;have f0:r.k<1->s.fm r=none:=λh=>if_pos (.inl h);have f1:14<=r.k->s.fm r=none:=λh=>if_pos (.inr (.inl h));have f2:s.q.valid=false->s.fm r=none:=λh=>if_pos (.inr (.inr h));have f3:s.q.valid=true->1<=r.k->r.k<=4->s.fm r=s.fIn r:=λh h1 h2=>by unfold Scp.fm;rw[if_neg (by rw[h];simp;omega),if_pos h2]
 have f4:s.q.valid=true->5<=r.k->r.k<14->s.fm r=s.fUn r:=λh h1 h2=>by unfold Scp.fm;rw[if_neg (by rw[h];simp;omega),if_neg oM]
 obtain⟨o,ho⟩:∃ o,o=s.fm r:=⟨_,rfl⟩;rw[<-ho] at f0 f1 f2 f3 f4 ⊢;obtain⟨W,hW⟩:∃ W,W=fA (o.getD F.zero):=⟨_,rfl⟩;obtain⟨b,hb⟩:∃ b,b=o.isSome:=⟨_,rfl⟩;rw[show fv (o.getD F.zero)=av W by rw[hW],<-hb];have fin1:o=none->W=⟨[],R0⟩/\b=false:=λh=>by rw[h] at hW hb;exact⟨hW.trans dT,hb⟩
 obtain⟨wt,w1,w2,w3⟩:=W;have fin3:o=none->wt=[]/\w1=false/\w2=[]/\w3=[]/\b=false:=λh=>by obtain⟨h1,h2⟩:=fin1 h;simp only[A.mk.injEq,R.mk.injEq] at h1;exact⟨h1.1,h1.2.1,h1.2.2.1,h1.2.2.2,h2⟩
 clear fin1;have g3:s.q.valid=true->1<=r.k->r.k<=4->zE 83 [sv s,rwv r] (.tup [av ⟨wt,w1,w2,w3⟩,zM b]):=λh h1 h2=>by rw[hW,hb,f3 h h1 h2];exact cin
 have g4:s.q.valid=true->5<=r.k->r.k<14->zE 85 [sv s,rwv r] (.tup [av ⟨wt,w1,w2,w3⟩,zM b]):=λh h1 h2=>by rw[hW,hb,f4 h h1 h2];exact cun h
 clear hW hb f3 f4 cin cun ho;generalize s.q.valid=vd at *;cbv;refine zU (λe1=>?_) (λe1=>?_);{cbv;obtain⟨q0,q1,q2,q3,q4⟩:=fin3 (f0 e1);subst q0 q1 q2 q3 q4;exact rA};cbv;refine zU (λe2=>?_) (λe2=>?_);{cbv;obtain⟨q0,q1,q2,q3,q4⟩:=fin3 (f1 e2);subst q0 q1 q2 q3 q4;exact rA};cbv;refine A6 [2,3,4,6,18,16] [2,3,4,6] rfl rfl okA (cv) rfl ?_;cbv;refine zS (λe3=>?_) (λe3=>?_)
 rotate_left
 {cbv;obtain⟨q0,q1,q2,q3,q4⟩:=fin3 (f2 e3);subst q0 q1 q2 q3 q4;exact rA};cbv;clear cv f0 f1 f2 fin3;have hk:r.k=1\/r.k=2\/r.k=3\/r.k=4\/r.k=5\/r.k=6\/r.k=7\/r.k=8\/r.k=9\/r.k=10\/r.k=11\/r.k=12\/r.k=13:=by omega
 refine AW 9 [2,3,4,6] [2,3,4,6] rfl (by cbv) ?_;cbv;rcases hk with hk|hk|hk|hk|hk|hk|hk|hk|hk|hk|hk|hk|hk;{have cc:=g3 e3 oM oM;clear g3 g4;refine bW 1 hk (by decide) ?_;cbv;refine wH okA cc rfl ?_;cbv;exact rA};{have cc:=g3 e3 oM oM;clear g3 g4;refine bW 2 hk (by decide) ?_;cbv;refine wH okA cc rfl ?_;cbv;exact rA};{have cc:=g3 e3 oM oM;clear g3 g4;refine bW 3 hk (by decide) ?_;cbv;refine wH okA cc rfl ?_;cbv;exact rA};{have cc:=g3 e3 oM oM;clear g3 g4;refine bW 4 hk (by decide) ?_;cbv;refine wH okA cc rfl ?_;cbv;exact rA};{have cc:=g4 e3 oM oM;clear g3 g4;refine bW 5 hk (by decide) ?_;cbv;refine wH okA cc rfl ?_;cbv;exact rA};{have cc:=g4 e3 oM oM;clear g3 g4;refine bW 6 hk (by decide) ?_;cbv;refine wH okA cc rfl ?_;cbv;exact rA};{have cc:=g4 e3 oM oM;clear g3 g4;refine bW 7 hk (by decide) ?_;cbv;refine wH okA cc rfl ?_;cbv;exact rA};{have cc:=g4 e3 oM oM;clear g3 g4;refine bW 8 hk (by decide) ?_;cbv;refine wH okA cc rfl ?_;cbv;exact rA};{have cc:=g4 e3 oM oM;clear g3 g4;refine bW 9 hk (by decide) ?_;cbv;refine wH okA cc rfl ?_;cbv;exact rA};{have cc:=g4 e3 oM oM;clear g3 g4;refine bW 10 hk (by decide) ?_;cbv;refine wH okA cc rfl ?_;cbv;exact rA};{have cc:=g4 e3 oM oM;clear g3 g4;refine bW 11 hk (by decide) ?_;cbv;refine wH okA cc rfl ?_;cbv;exact rA};{have cc:=g4 e3 oM oM;clear g3 g4;refine bW 12 hk (by decide) ?_;cbv;refine wH okA cc rfl ?_;cbv;exact rA};{have cc:=g4 e3 oM oM;clear g3 g4;refine bW 13 hk (by decide) ?_;cbv;refine wH okA cc rfl ?_;cbv;exact rA}
theorem pL {c:Rat}{k n m:Nat}(hc:Fits m c):∀ {a b:List (Int×Rat)},(∀ t,t∈a->Fits k t.2)->(∀ t,t∈b->Fits n t.2)->∀ u,u∈mrg c a b->Fits (k+n+m+1) u.2
 |[],[],_,_,u,h=>by rw[mrg] at h;exact absurd h (by simp)| a::aa,[],ha,hb,u,h=>by rw[mrg] at h;rcases qP h with rfl|h;{exact (ha a wZ).mono oM};{exact pL hc (λt ht=>ha t (wJ _ ht)) hb u h}
 |[],b::bb,ha,hb,u,h=>by rw[mrg] at h;rcases qP h with rfl|h;{exact (x5 (hb b wZ) hc).mono oM};{exact pL hc ha (λt ht=>hb t (wJ _ ht)) u h}
 |a::aa,b::bb,ha,hb,u,h=>by rw[mrg] at h;split at h;{rcases qP h with rfl|h;{exact (ha a wZ).mono oM};{exact pL hc (λt ht=>ha t (wJ _ ht)) hb u h}};{split at h;{rcases qP h with rfl|h;{exact (x5 (hb b wZ) hc).mono oM};{exact pL hc ha (λt ht=>hb t (wJ _ ht)) u h}};{rcases qP h with rfl|h;{exact (uS (ha a wZ) (x5 (hb b wZ) hc)).mono oM};{exact pL hc (λt ht=>ha t (wJ _ ht)) (λt ht=>hb t (wJ _ ht)) u h}}}
termination_by a b=>a.length+b.length
structure F.fl (f:F) (k n:Nat):Prop where
 t:∀ t,t∈f.ts->Fits k t.2
 c:Fits k f.c
 len:f.ts.length<=n
theorem F.fl.fit {f:F}{k n:Nat}(h:f.fl k n)(hn:n<2^38):f.fit k:=⟨⟨xQ h.len hn,h.t⟩,h.c⟩
theorem F.fl.mono {f:F}{k n k' n':Nat}(h:f.fl k n)(hk:k<=k')(hn:n<=n'):f.fl k' n':=⟨λt ht=>(h.t t ht).mono hk,h.c.mono hk,vV h.len hn⟩
theorem F.fl.merge {f g:F}{c:Rat}{k n k' n' m:Nat}(hf:f.fl k n)(hg:g.fl k' n')(hc:Fits m c):(f.merge g c).fl (k+k'+m+1) (n+n') :=
 ⟨pL hc hf.t hg.t,(uS hf.c (x5 hg.c hc)).mono oM,vV (aM _ _ _) (Nat.add_le_add hf.len hg.len)⟩
theorem zero_fl:F.zero.fl 1 0:=⟨λt ht=>absurd ht (by simp[F.zero]),xT (by decide),yX _⟩
theorem fC (v:Int):(F.var v).fl 1 1:=⟨(tB v).t.fit,(tB v).c,yX _⟩
theorem kJ {k:Nat}{q:Rat}(h:Fits k q):(F.num q).fl k 0:=⟨(aL h).t.fit,h,yX _⟩
theorem F.fl.add {f g:F}{k n k' n':Nat}(hf:f.fl k n)(hg:g.fl k' n'):(f.add g).fl (k+k'+2) (n+n'):=(hf.merge hg fits_one).mono oM (yX _)
theorem F.fl.sub {f g:F}{k n k' n':Nat}(hf:f.fl k n)(hg:g.fl k' n'):(f.sub g).fl (k+k'+2) (n+n'):=(hf.merge hg uA).mono oM (yX _)
theorem F.fl.scale {f:F}{c:Rat}{k n m:Nat}(hf:f.fl k n)(hc:Fits m c):(f.scale c).fl (k+m+2) n:=(F.fl.merge zero_fl hf hc).mono oM oM
theorem A.sz.fl {a:A}{k n:Nat}(h:a.sz k)(hk:1<=k)(hn:a.ts.length<=n):a.f.fl k n:=⟨(h.t.fit hk).fit,h.c.fits hk,by show (tq a.ts).length<=n;unfold tq;rw[yN];exact hn⟩
def sumL (s:Scp):F->List Mult->Option F
 |acc,[]=>some acc
 |acc,m::r=>match s.fm m.row with
  |none=>none| some f=>sumL s (acc.add (f.scale m.c.q)) r
def Scp.sum (s:Scp) (l:List Mult):Int×F:=if b8 none l=false then (1,F.zero) else match sumL s F.zero l with
 |none=>(12,F.zero)| some f=>(0,f)
def Scp.proves (s:Scp) (f:A) (l:List Mult):Bool:=decide ((s.sum l).1=0)&&(f.valid 9223372036854775807&&(decide ((f.f.sub (s.sum l).2).ts.length=0)&&decide (0<=yF (f.f.sub (s.sum l).2).c)))
def Lem.form (m:Lem) (p:F):F:=if m.up=true then (p.sub (F.num m.v.q)).scale (-1) else p.sub (F.num m.v.q)
def Scp.lemB (s:Scp) (m:Lem):Bool:=decide (0<=m.u/\m.u<s.q.g.us.length)&&(m.v.ok&&(s.q.valid&&match s.q.g.us[m.u.toNat]? with
 |some p=>s.proves (fA (m.form p.f)) m.pf| none=>false))
theorem Pd {m:Lem}{p:F}{k n:Nat}(hp:p.fl k n)(hm:Fits k m.v.q):(m.form p).fl (2*k+6) n:=by unfold Lem.form;split;{exact ((hp.sub (kJ hm)).scale uA).mono oM oM};{exact (hp.sub (kJ hm)).mono oM oM}
def Scp.pre (s:Scp) (i:Nat):Scp:=⟨s.q,s.path,s.lems.take i⟩
def jG (s:Scp):Nat->List Lem->Bool
 |_,[]=>true| i,m::r=>(s.pre i).lemB m&&jG s (i+1) r
def Scp.scopeB (s:Scp):Bool:=s.q.valid&&((s.path.all λd=>s.q.valid&&d.fits s.q)&&jG s 0 s.lems)
theorem Scp.pre_sz {s:Scp}{k:Nat}(h:s.sz k)(i:Nat):(s.pre i).sz k :=
 ⟨h.q,h.path,⟨by show (s.lems.take i).length<_;rw[vG];have:=h.lems.len;omega,λa ha=>h.lems.sz a (p5 ha),λa ha=>h.lems.pf a (p5 ha)⟩⟩
theorem dE:ty 66=.sli 7 88 [iV 0,iV 0,iV 0,iV 0,.ff,.nil,.nil]:=by cbv
theorem Vh {t base x d ps K n b z xs}(ht:ty t=.sli n b z){m o len els}(hb:ev (zD ps.tmps) base=.osl m n o len)(ho:yK ps.objs m=some (.arr n els))(h0:els ()=[])(ho0:o ()=0)(hl:len ()=0)(hx:ev (zD ps.tmps) x=.sl xs)(hw:Wid n xs) (hr:Room (λ_=>((xs ()).length:Nat)) b) (hf:yO d ⟨wF (scr m) ps.tmps,xB (scr m) (xP ps.objs m)⟩=true) (hK:K ⟨v4 (wF (scr m) ps.tmps) d (zW d n ((xs ()).length)),xB (scr m) (xP ps.objs m)++[(d,.arr n xs)]⟩):AppK t base x (some d) ps K:=by
 have e1:(λ_:Unit=>(els ()).length+(xs ()).length)=λ_=>(xs ()).length:=funext λ_=>by simp[h0]
 have e2:(λ_:Unit=>els ()++xs ())=xs:=funext λ_=>by simp[h0]
 exact xY ht hb ho ho0 (by rw[hl,h0];rfl) hx hw (by simpa[h0] using hr) hf (by rw[e1,e2];exact hK)
abbrev mao (n:Nat) (l:List Mult):List (Nat×Obj'):=[(n,z5 7 (enc mc l))]
theorem EE (l:List Mult)(hl:l.length<2^38):Sound 176 [mlv l] [] [] (zW 100 7 l.length) [] (mao 100 l):=by
 refine sF Tryz.f176 ?_;cbv;refine⟨λb hb=>?_⟩;cbv;refine zS (λh=>?_) (λh=>?_)
 ·(have hb':=hb h;have hl0:l=[]:=by have:=congrArg List.length hb';rw[zB] at this;exact gX this);cbv;subst hl0;refine Yt (ps':=⟨[(2,zW 100 7 0)],[(100,z5 7 ([]))]⟩) 100 (.trans (.le (ps':=⟨[(2,.nil)],[]⟩) ?_ trivial rfl) (.adoptT (ps:=⟨[(2,.nil)],[]⟩) 100 7 2 rfl rfl)) rfl rfl rfl ?_;{cbv;exact okA};{cbv;exact zR rfl rfl}
 {cbv;refine xY dE rfl rfl rfl rfl rfl (vO w7 _) (z3 om (by simp only[dZ,zB];exact om)) rfl ?_;cbv;refine Yt (ps':=⟨[(2,zW 7 7 l.length)],[(7,z5 7 (enc mc l))]⟩) 7 (.le ?_ ?_ rfl) rfl rfl rfl ?_;{cbv;exact⟨zR rfl (by simp[zB]),trivial⟩};{cbv;exact⟨zC rfl,trivial⟩};{cbv;exact lR}}
def eC (x:Mult):List Mult->List Mult
 |[]=>[x]| y::r=>if dV x.row y.row<0 then y::eC x r else x::y::r
def isr (l:List Mult):List Mult:=l.foldl (λa x=>eC x a) []
theorem Jw (x:Mult):∀ l,(eC x l).length=l.length+1
 |[]=>rfl| y::r=>by unfold eC;split <;> simp[Jw x r]
theorem Ab (l:List Mult)(x:Mult):isr (l++[x])=eC x (isr l):=by unfold isr;rw[List.foldl_append];rfl
theorem QG:∀ l,(isr l).length=l.length:=by
 have:∀ (l a:List Mult),(l.foldl (λa x=>eC x a) a).length=a.length+l.length:=by
  intro l;induction l with
  |nil=>intro a;simp| cons x r ih=>intro a;rw[List.foldl_cons,ih,Jw,d5];omega
 intro l;unfold isr;rw[this];simp
theorem Rk {α:Type}(p b:List α)(x y:α):((p++y::x::b).set (p.length+1) y).set p.length x=p++x::y::b:=by rw[List.set_append_right _ _ oM,List.set_append_right _ _ oM];simp[show p.length+1-p.length=1 by omega]
theorem Pm {α:Type}{p:α->List PV}{n:Nat}{els:List (List D)}{i:Nat}{K:List PV->Prop}(l:List α)(he:els=enc p l)(j:Nat)(hk:i=j)(hj:j<l.length)(hf:∀ a,y4 qV (p a)=true)(hn:∀ a,(p a).length=n) (hK:∀ a,l[j]?=some a->K (p a)):ElOk n (λ_=>els) (λ_=>i) K:=by subst he;exact Z9 j hk hj hf hn hK
theorem EB (l:List Mult)(hl:l.length<=12):Sound 243 [zW 1000000 7 l.length,iV 0,iV l.length,.fn 178 []] (mao 1000000 l) [] (.tup []) (mao 1000000 (isr l).reverse) []:=by
 refine sF Tryz.f243 ?_;obtain⟨P,hP⟩:∃ P:Nat->List Mult,∀ i,P i=isr (l.take i):=⟨_,λ_=>rfl⟩;have hPl:∀ i,i<=l.length->(P i).length=i:=λi hi=>by rw[hP,QG,vG];omega
 have hPs:∀ i x,l[i]?=some x->P (i+1)=eC x (P i):=λi x hx=>by rw[hP,hP,rS,hx];exact Ab _ _
 have hP1:l≠[]->(P 1).reverse++l.drop 1=l:=λh=>by
  cases l with
  |nil=>exact absurd rfl h| cons x r=>rw[hP];rfl
 have hPe:isr l=P l.length:=by rw[hP,v6]
 have hP0:l=[]->P l.length=[]:=λh=>by rw[h,hP];rfl
 rw[hPe];have hins:∀ x y r,eC x (y::r)=if dV x.row y.row<0 then y::eC x r else x::y::r:=λ_ _ _=>rfl
 have hins0:∀ x,eC x []=[x]:=λ_=>rfl;obtain⟨I,hI⟩:=ex eC;rw[hI] at hPs hins hins0;clear hP hI hPe;have hcmp:=Lw;generalize hN:P l.length=R at *;by_cases hle:l=[];{have hR:R=[]:=hP0 hle;subst hle hR;clear hPl hPs hP1 hP0 hN hins hins0;cbv;refine⟨zF (by decide) (by decide),?_⟩;refine zZ (σ:=Unit) (λ_=>⟨[(2,iV 0),(8,iV 1)],[(1000000,z5 7 ([]))]⟩) (λ_=>True) (λ_=>0) () trivial (.le ?_ ?_ rfl) ?_;{cbv;exact⟨zG (by rfl),zG (by rfl),trivial⟩};{cbv;exact⟨zC rfl,trivial⟩};intro _ _;cbv;refine yE (by decide) ?_;cbv;exact XP rfl trivial rfl rfl rfl rfl};have hl1:1<=l.length:=by cases l with
  |nil=>exact absurd rfl hle| cons x r=>simp
 have hP1':=hP1 hle;clear hP1 hP0;cbv;refine⟨zF (by decide) (by decide),?_⟩;refine zZ (σ:=Nat) (λi=>⟨[(0,zW 1000000 7 l.length),(1,iV 0),(2,iV l.length),(3,.fn 178 []),(8,iV i)],[(1000000,z5 7 (enc mc ((P i).reverse++l.drop i)))]⟩)
  (λi=>1<=i/\i<=l.length) (λi=>l.length-i) 1 ⟨om,hl1⟩ (.le ?_ ?_ rfl) ?_
 {cbv;exact⟨lR,lR,lR,zG (by rfl),trivial⟩};{cbv;exact⟨zC (by rw[hP1']),trivial⟩};clear hP1';intro i hi;obtain⟨hi1,hi2⟩:=hi;cbv;refine zH (λh5=>?_) (λh5=>?_)
 ·(have hlt:i<l.length:=by exact om);obtain⟨x,hx⟩:=zY hlt
  (have hdr:=yI hx;have hPi:=hPs i x hx;have hPil:=hPl i hi2;have hPil1:=hPl (i+1) hlt;generalize hrest:l.drop (i+1)=rest at *;have hrl:rest.length=l.length-(i+1):=by rw[<-hrest,mI]);generalize hp0:P i=p0 at *
  generalize hp1:P (i+1)=p1 at *;clear hPs hPl;cbv;refine zZ (σ:=List Mult×List Mult) (λs=>⟨[(0,zW 1000000 7 l.length),(1,iV 0),(2,iV l.length),(3,.fn 178 []),(8,iV i),(9,iV s.1.length)],[(1000000,z5 7 (enc mc (s.1.reverse++x::(s.2.reverse++rest))))]⟩)
   (λs=>s.1.length+s.2.length=i/\p1=s.2++I x s.1) (λs=>s.1.length) (p0,[]) ⟨by simp[hPil],hPi⟩ (.le ?_ ?_ rfl) ?_
  {cbv;exact⟨lR,lR,lR,lR,zG (by exact om),trivial⟩};{cbv;exact⟨zC (by rw[hdr];simp),trivial⟩};intro s hs;obtain⟨hL,hT⟩:=hs;generalize s.1=pr at *;generalize s.2=qr at *;cases pr with
  |nil =>
   (have hT':p1=qr++[x]:=by rw[hT,hins0]);cbv
   refine zP 17 (by cbv) ?_;cbv;refine yG (by simp) ?_;cbv;refine⟨zF om om,i+1,⟨om,om⟩,om,.le ?_ ?_ rfl⟩;{cbv;exact⟨lR,lR,lR,zG om,trivial⟩};{cbv;exact⟨zC (by rw[hp1,hrest,hT'];simp),trivial⟩}
  |cons y pr =>
   (rw[hins] at hT;have hc:=hcmp x y;have hlen:(pr.reverse++y::x::(qr.reverse++rest)).length=l.length:=by simp only[vE,Kn,d5] at hL ⊢;omega);have earr:(y::pr).reverse++x::(qr.reverse++rest)=pr.reverse++y::x::(qr.reverse++rest):=by simp
   (have hgj:(pr.reverse++y::x::(qr.reverse++rest))[pr.length+1]?=some x:=by rw[cO (by simp)];simp[show pr.length+1-pr.length=1 by omega]);have hgj1:(pr.reverse++y::x::(qr.reverse++rest))[pr.length]?=some y:=by rw[cO (by simp)];simp
   have hset:((pr.reverse++y::x::(qr.reverse++rest)).set (pr.length+1) y).set pr.length x=pr.reverse++x::((qr++[y]).reverse++rest):=by have:=Rk pr.reverse (qr.reverse++rest) x y;rw[Kn] at this;rw[this];simp
   (rw[d5] at hL;simp only[earr,d5];generalize hA:pr.reverse++y::x::(qr.reverse++rest)=arr at *;generalize dV x.row y.row=cr at *;cbv;refine zP 17 (by cbv) ?_;cbv;refine wO (by exact om) ?_;cbv;refine⟨yD om om,?_⟩;cbv;refine Z9 (l:=arr) (pr.length+1) om oM uX w7 (λt ht=>?_);obtain rfl:x=t:=by rw[hgj] at ht;exact u9 ht);cbv
   (refine⟨zF om om,yD om om,?_⟩;cbv;refine Z9 (l:=arr) pr.length om oM uX w7 (λt' ht'=>?_);obtain rfl:y=t':=by rw[hgj1] at ht';exact u9 ht');cbv
   refine dA hc ?_;cbv;refine zH (λe1=>?_) (λe1=>?_)
   ·(rw[if_pos e1] at hT;cbv;refine QX 17 15 (by cbv) (by cbv) ?_;cbv;refine⟨zF om om,zF om om,yD om om,?_⟩;cbv;refine Z9 (l:=arr) pr.length om oM uX w7 (λt' ht'=>?_);obtain rfl:y=t':=by rw[hgj1] at ht';exact u9 ht');cbv
    (refine⟨yD om om,?_⟩;cbv;refine Z9 (l:=arr) (pr.length+1) om oM uX w7 (λt ht=>?_);obtain rfl:x=t:=by rw[hgj] at ht;exact u9 ht);cbv
    refine⟨yD om om,?_⟩;cbv;refine Z9 (l:=arr) (pr.length+1) om oM uX w7 (λt0 ht0=>?_);cbv;refine⟨yD om om,Pm (p:=mc) (arr.set (pr.length+1) y) ?_ pr.length om (by rw[cL];omega) uX w7 (λt1 ht1=>?_)⟩;{show (enc mc arr).set (0+((pr.length+1:Nat):Int).toNat) (xC (mc y))=_;rw[lK];congr 2;omega};cbv;refine⟨zF om om,(pr,qr++[y]),⟨by simp;omega,by rw[hT];simp⟩,by simp,.le ?_ ?_ rfl⟩;{cbv;exact⟨lR,lR,lR,lR,zG om,trivial⟩};{cbv;refine⟨zC ?_,trivial⟩;show ((enc mc arr).set (0+((pr.length+1:Nat):Int).toNat) (xC (mc y))).set (0+(((pr.length+1:Nat):Int)-1).toNat) (xC (mc x))=_;rw[lK,lK,<-hset];congr 3 <;> omega}
   {rw[if_neg e1] at hT;cbv;refine⟨zF om om,i+1,⟨om,om⟩,om,.le ?_ ?_ rfl⟩;{cbv;exact⟨lR,lR,lR,zG om,trivial⟩};{cbv;exact⟨zC (by rw[hp1,hrest,hT,<-hA];simp),trivial⟩}}
 ·(have hi':i=l.length:=by exact om);subst hi'
  cbv;refine Qf (.le (ps':=⟨[],[(1000000,z5 7 (enc mc R.reverse))]⟩) ?_ ?_ rfl) rfl trivial rfl rfl rfl rfl;{trivial};{cbv;exact⟨zC (by rw[hN];simp),trivial⟩}
theorem Ey (l:List Mult)(hl:l.length<=12):Sound 221 [zW 1000000 7 l.length,iV l.length,.fn 178 []] (mao 1000000 l) [] (.tup []) (mao 1000000 (isr l).reverse) []:=by
 refine sF Tryz.f221 ?_;have ci:=EB l hl;have hel:(isr l).reverse.length=l.length:=by rw[Kn,QG]
 generalize (isr l).reverse=R at *;cbv;refine zZ (σ:=Unit) (λ_=>⟨[(0,zW 1000000 7 l.length),(1,iV l.length),(2,.fn 178 []),(6,iV 20),(7,iV 0),(8,iV 20)],mao 1000000 l⟩) (λ_=>True) (λ_=>0) () trivial (.le ?_ ?_ rfl) ?_;{cbv;exact okA};{cbv;exact⟨zC rfl,trivial⟩};intro _ _;cbv;refine yE (by exact om) ?_;cbv;refine kB (λn=>n) (Wk.sel _ [1,6,23,24,25,26] [1000000] rfl) rfl (by exact⟨lR,lR,lR,⟨rfl,trivial⟩,trivial⟩) ci ?_;cbv;refine zZ (σ:=Unit) (λ_=>⟨[(1,iV l.length),(6,iV 20)],mao 1000000 R⟩) (λ_=>True) (λ_=>0) () trivial (.le ?_ ?_ rfl) ?_;{cbv;exact okA};{cbv;exact⟨zC rfl,trivial⟩};intro _ _;cbv;refine yE (by exact om) ?_;cbv;exact XP rfl trivial rfl rfl rfl rfl
theorem Ld (l:List Mult)(hl:l.length<=12):Sound 177 [zW 1000000 7 l.length,.fn 178 []] (mao 1000000 l) [] (.tup []) (mao 1000000 (isr l).reverse) []:=by refine sF Tryz.f177 ?_;have ci:=Ey l hl;generalize (isr l).reverse=R at *;cbv;refine kB (λn=>n) (.refl _) rfl (by exact⟨lR,lR,⟨rfl,trivial⟩,trivial⟩) ci ?_;cbv;exact XP rfl trivial rfl rfl rfl rfl
abbrev fld (s : String) (o b : Nat) : Field := { name := s, type := 3, offset := o, embedded := false, tag := "", pkgPath := "", byteOffset := b }
theorem RQ:Pg.underlying 75=some (.struct (Pg.fieldsOf 75)):=by rw[uM];kernel_rfl
theorem Bt : (Pg.fieldsOf 75).toList = [fld "Kind" 0 0, fld "Index" 1 8, fld "Lo" 2 16, fld "Hi" 3 24] := by rw [uM]; kernel_rfl
theorem Bs:Pg.stoodInHeld 75=false:=by rw[uM];kernel_rfl
theorem Ud:Pg.eqGuardType Pg.depth 75=false:=by rw[uM];kernel_rfl
theorem lH:Pg.plainKey 3=true:=by rw[uM];kernel_rfl
theorem R8:Pg.underlying 3=some (.int .i64):=by rw[uM];kernel_rfl
abbrev oS (a:Row):Array Value:=#[.int .i64 a.k,.int .i64 a.i,.int .i64 a.lo,.int .i64 a.hi]
theorem Ue (a b:Row)(w:World):(Op.equalIn 10000 75 (.agg (oS a)) (.agg (oS b))).run Pg w=.ok (decide (a=b)) w:=by
 rw[show (10000:Nat)=9999+1 from rfl,run_equalIn_agg w 9999 _ _ _ RQ Bs,Bt];have p0:∀ (c:Row),(part 3 (oS c) 0).run Pg w=.ok (.int .i64 c.k) w:=λc=>run_part_plain _ lH rfl;have p1:∀ (c:Row),(part 3 (oS c) 1).run Pg w=.ok (.int .i64 c.i) w:=λc=>run_part_plain _ lH rfl;have p2:∀ (c:Row),(part 3 (oS c) 2).run Pg w=.ok (.int .i64 c.lo) w:=λc=>run_part_plain _ lH rfl;have p3:∀ (c:Row),(part 3 (oS c) 3).run Pg w=.ok (.int .i64 c.hi) w:=λc=>run_part_plain _ lH rfl;have q:∀ (x y:Int),(Op.equalIn 9999 3 (.int .i64 x) (.int .i64 y)).run Pg w=.ok (x == y) w:=λx y=>run_equalIn_int w 9998 _ .i64 .i64 x y R8;have e:decide (a=b)=((a.k == b.k)&&((a.i == b.i)&&((a.lo == b.lo)&&(a.hi == b.hi)))):=by obtain⟨a1,a2,a3,a4⟩:=a;obtain⟨b1,b2,b3,b4⟩:=b;rw[rT];simp
 rw[e];simp only[Op.eqFields,Sem.run_bind,Sem.run_ite,p0,p1,p2,p3,q,Result.andThen_ok,Sem.run_pure];generalize (a.k == b.k)=x0;generalize (a.i == b.i)=x1;generalize (a.lo == b.lo)=x2;generalize (a.hi == b.hi)=x3;cases x0 <;> cases x1 <;> cases x2 <;> cases x3 <;> rfl
theorem QU {x y:Operand}{a b:Row}{K:PV->Prop}(hK:K (zM (decide (a=b)))):EqS .eql 75 x y [.i λ_=>a.k,.i λ_=>a.i,.i λ_=>a.lo,.i λ_=>a.hi] [.i λ_=>b.k,.i λ_=>b.i,.i λ_=>b.lo,.i λ_=>b.hi] K:=by refine⟨⟨decide (a=b),λw=>?_,hK⟩⟩;show (do eqGuard .eql 75 x y (.agg (oS a)) (.agg (oS b));binOp .eql 75 (.agg (oS a)) (.agg (oS b)):Sem Value).run Pg w=_;simp only[Sem.run_bind,run_eqGuard_agg w .eql _ x y _ _ Ud,Result.andThen_ok,run_eql_struct,Ue]
theorem BU {x y:Operand}{a b:Row}{K:PV->Prop}(hK:K (zM (!(decide (a=b))))):EqS .neq 75 x y [.i λ_=>a.k,.i λ_=>a.i,.i λ_=>a.lo,.i λ_=>a.hi] [.i λ_=>b.k,.i λ_=>b.i,.i λ_=>b.lo,.i λ_=>b.hi] K:=by refine⟨⟨!(decide (a=b)),λw=>?_,hK⟩⟩;show (do eqGuard .neq 75 x y (.agg (oS a)) (.agg (oS b));binOp .neq 75 (.agg (oS a)) (.agg (oS b)):Sem Value).run Pg w=_;simp only[Sem.run_bind,run_eqGuard_agg w .neq _ x y _ _ Ud,Result.andThen_ok,run_neq_struct,Ue]
def mR (l:List (Row×Rat)):List Mult:=l.map λt=>⟨t.1,zI t.2⟩
theorem qS (l:List (Row×Rat)):(mR l).length=l.length:=by simp[mR]
theorem m9 (l m:List (Row×Rat)):mR (l++m)=mR l++mR m:=by simp[mR]
def VJ (r:Row) (q:Rat) (rest:List (Row×Rat)):List (Row×Rat):=if 0<yF q then (r,q)::rest else rest
def eD (r:Row) (q:Rat):List Mult->List (Row×Rat)
 |[]=>VJ r q []| m::t=>if m.row=r then eD r (q+m.c.q) t else VJ r q (eD m.row (0+m.c.q) t)
def grp:List Mult->List (Row×Rat)
 |[]=>[]| m::t=>eD m.row 0 (m::t)
theorem DR (r:Row)(q:Rat)(m:Mult)(t:List Mult):eD r q (m::t)=if m.row=r then eD r (q+m.c.q) t else VJ r q (grp (m::t)):=by rw[show eD r q (m::t)=if m.row=r then eD r (q+m.c.q) t else VJ r q (eD m.row (0+m.c.q) t) from rfl];rw[show grp (m::t)=eD m.row 0 (m::t) from rfl,show eD m.row 0 (m::t)=if m.row=m.row then eD m.row (0+m.c.q) t else VJ m.row 0 (eD m.row (0+m.c.q) t) from rfl,if_pos rfl]
def gr (l:List (Row×Rat)) (r:Row) (q:Rat):List (Row×Rat):=if 0<yF q then l++[(r,q)] else l
theorem Ao (l:List (Row×Rat))(r:Row)(q:Rat)(rest):gr l r q++rest=l++VJ r q rest:=by unfold gr VJ;split <;> simp
theorem An (l:List (Row×Rat))(r:Row)(q:Rat):(gr l r q).length<=l.length+1:=by unfold gr;split <;> simp
def kD (l:List Mult):Int×List (Row×Rat):=if (l.any λm=>decide (yF m.c.q<0))=true then (1,[]) else (0,grp (isr l).reverse)
theorem Jv {x m:Mult}:∀ {l},m∈eC x l->m=x\/m∈l
 |[],h=>by simp[eC] at h;exact .inl h| y::r,h=>by unfold eC at h;split at h;{rcases yR.1 h with rfl|h;{exact .inr wZ};{rcases Jv h with h|h;{exact .inl h};{exact .inr (wJ _ h)}}};{exact yR.1 h}
theorem R7 {m:Mult}:∀ {l:List Mult},m∈isr l->m∈l:=by
 have:∀ (l a:List Mult),m∈l.foldl (λa x=>eC x a) a->m∈a\/m∈l:=by
  intro l;induction l with
  |nil=>intro a h;exact .inl h| cons x r ih =>
   intro a h;rcases ih _ h with h|h;{rcases Jv h with h|h;{exact .inr (by rw[h];exact wZ)};{exact .inl h}};{exact .inr (wJ _ h)}
 intro l h;rcases this l [] h with h|h;{exact absurd h (by simp)};{exact h}
theorem Bf (l:List Mult)(hl:l.length<=4096)(hs:Msz (2^20) l)(c2:Sound 177 [zW 1000000 7 l.length,.fn 178 []] (mao 1000000 l) [] (.tup []) (mao 1000000 (isr l).reverse) []):zE 113 [mlv l] (.tup [mlv (mR (kD l).2),iV ((kD l).1)]):=by
 refine sF Tryz.f113 ?_;have c0:=Lu (λm=>decide (yF m.c.q<0)) l oM 175 [] (λm hm=>Ly m (xQ (hs.sz m hm).n (by decide)));have c1:=EE l oM;have hLl:(isr l).reverse.length=l.length:=by rw[Kn,QG]
 have hLs:∀ m,m∈(isr l).reverse->m.c.sz (2^20):=λm hm=>hs.sz m (R7 (by simpa using hm));have d0:(l.any λm=>decide (yF m.c.q<0))=true->kD l=(1,[]):=λh=>if_pos h;have d1:(l.any λm=>decide (yF m.c.q<0))=false->kD l=(0,grp (isr l).reverse):=λh=>if_neg (by rw[h];decide);generalize (l.any λm=>decide (yF m.c.q<0))=neg at *;generalize (isr l).reverse=L at *;obtain⟨M,hM⟩:∃ M,M=(kD l).2:=⟨_,rfl⟩;obtain⟨e,he⟩:∃ e,e=(kD l).1:=⟨_,rfl⟩;rw[<-hM,<-he];have e0:neg=true->M=[]/\e=1:=λh=>by rw[d0 h] at hM he;exact⟨hM,he⟩
 have e1:neg=false->M=grp L/\e=0:=λh=>by rw[d1 h] at hM he;exact⟨hM,he⟩
 clear d0 d1 hM he;have hgc:=DR;have hge:∀ r q,eD r q []=VJ r q []:=λ_ _=>rfl;have hg0:grp []=[]:=rfl;have hg1:∀ m t,grp (m::t)=eD m.row 0 (m::t):=λ_ _=>rfl;obtain⟨G,hG⟩:=ex eD;obtain⟨H,hH⟩:=ex grp;rw[hG,hH] at hgc;rw[hG] at hge;rw[hH] at hg0;rw[hG,hH] at hg1;rw[hH] at e1;clear hG hH;cbv;refine xE rfl (by exact⟨lR,⟨rfl,trivial⟩,trivial⟩) c0 rfl ?_;cbv;refine zS (λh=>?_) (λh=>?_);{obtain⟨q1,q2⟩:=e0 h;subst q1 q2;cbv;exact rA};obtain⟨hM,q2⟩:=e1 h;subst q2;clear e0 e1 c0;cbv;refine kW (λ_=>300) (Wk.sel _ [11] [] rfl) c1 ?_;cbv;refine kB (λ_=>300) (Wk.sel _ [4,13] [300] rfl) rfl (by exact⟨lR,⟨rfl,trivial⟩,trivial⟩) c2 ?_;cbv;clear c1 c2;refine zZ (σ:=List (Row×Rat)×Nat) (λs=>⟨[(4,mlv L),(5,zW 55 7 s.1.length),(6,iV s.2)],[(55,z5 7 (enc mc (mR s.1)))]⟩)
  (λs=>s.2<=L.length/\s.1.length<=s.2/\M=s.1++H (L.drop s.2)) (λs=>L.length-s.2) ([],0) ⟨om,by simp,by rw[hM];rfl⟩
  (.trans (.frz 300 rfl rfl ?_ ?_) (.trans (.le (ps':=⟨[(4,mlv L),(5,.nil),(6,iV (((0:Nat):Int)))],[]⟩) ?_ trivial rfl) (.trans (.adoptT (ps:=⟨[(4,mlv L),(5,.nil),(6,iV (((0:Nat):Int)))],[]⟩) 55 7 5 rfl rfl) (.le ?_ ?_ rfl)))) ?_
 {cbv;exact⟨yB (by rw[zB];omega),yB (by rw[zB];omega),trivial⟩};{exact trivial};{cbv;exact⟨zT (yW (by rw[v5,zB];omega)),lR,zG rfl,trivial⟩};{cbv;exact⟨lR,zR rfl rfl,lR,trivial⟩};{cbv;exact⟨zC rfl,trivial⟩};clear hM;intro s hs';obtain⟨h1,h2,hI⟩:=hs';generalize s.1=out at *;generalize s.2=i at *;cbv;refine zH (λh5=>?_) (λh5=>?_)
 rotate_left
 ·(have hi:i=L.length:=by rw[zB] at h5;exact om);rw[hi,w5,hg0,uT] at hI
  cbv;subst hI;refine dG _ (.trans (.le (ps':=⟨[(2,zW 55 7 M.length),(3,iV 0)],[(55,z5 7 (enc mc (mR M)))]⟩) ?_ ?_ rfl) (.frz 55 rfl rfl ?_ ?_)) rfl ?_;{cbv;exact okA};{cbv;exact⟨zC rfl,trivial⟩};{cbv;exact⟨yB (by simp[zB,qS]),trivial⟩};{exact trivial};{cbv;exact⟨zT (yW (by simp[zB,qS])),lR,trivial⟩}
 have hlt:i<L.length:=by rw[zB] at h5;exact om
 obtain⟨m,hm⟩:=zY hlt;have hdr:=yI hm;rw[hdr,hg1] at hI;have idx:∀ {K:List PV->Prop},K (mc m)->IdxOk 7 (λ_=>enc mc L) (λ_=>(i:Int)) K:=λhK=>wE (l:=L) i rfl hlt uX w7 (λm' hm'=>by rw[hm] at hm';cases hm';exact hK);generalize hT0:G m.row 0 (m::L.drop (i+1))=T at *;cbv;refine idx ?_;cbv;clear idx;refine zZ (σ:=Nat×Rat) (λs=>⟨[(4,mlv L),(5,zW 55 7 out.length),(6,iV s.1),(7,.ptr 7 0),(8,.ptr 8 0)],[(7,.box (rwc m.row)),(8,.box [zM ((zI s.2).neg),nat (zI s.2).num,nat (zI s.2).den]),(55,z5 7 (enc mc (mR out)))]⟩)
  (λs=>i<=s.1/\s.1<=L.length/\T=G m.row s.2 (L.drop s.1)/\Fits (1+2^21*s.1) s.2) (λs=>L.length-s.1) (i,0) ⟨yX _,h1,by rw[<-hT0,hdr],xT oM⟩ (.le ?_ ?_ rfl) ?_
 {cbv;exact okA};{show leO _ [(7,.box (rwc m.row)),(8,.box [zM ((zI 0).neg),nat (zI 0).num,nat (zI 0).den]),(55,z5 7 (enc mc (mR out)))];rw[vR];cbv;exact⟨okA,okA,zC rfl,trivial⟩};clear hT0;intro s hs';obtain⟨k1,k2,kT,hq⟩:=hs';generalize s.1=i' at *;generalize s.2=q at *;by_cases hlt':i'<L.length
 rotate_left
 ·(have hi':i'=L.length:=by omega);have hTT:T=VJ m.row q (H (L.drop i')):=by rw[kT,hi',w5,hge,hg0]
  (obtain⟨Q0,hQ0⟩:=ex (zI q);cbv;refine zP 13 (by cbv) ?_;cbv;refine yG (by rw[zB];exact om) ?_;clear hQ0;have hT':M=gr out m.row q++H (L.drop i'):=by rw[hI,hTT,Ao]);have hgl:=An out m.row q
  have csq:=s86 (zI q) (xQ (zX hq).n oM);rw[z7] at csq;have hg1':0<yF q->gr out m.row q=out++[(m.row,q)]:=λh=>if_pos h;have hg2':¬0<yF q->gr out m.row q=out:=λh=>if_neg h;have hmr:mR [(m.row,q)]=[⟨m.row,zI q⟩]:=rfl;generalize gr out m.row q=out' at *;generalize yF q=sg at *;generalize zI q=Q at *;cbv;refine cA csq ?_;cbv;refine zH (λe3=>?_) (λe3=>?_);{have ho:=hg1' e3;cbv;subst ho;refine pB ?_;cbv;refine xY dE rfl rfl rfl (by simp only[zB,qS]) rfl ⟨by simp[zK,xC]⟩ (z3 (by simp only[zB,qS,zK,d5,dZ];omega) (by simp only[zB,qS,zK,d5,dZ];omega)) rfl ?_;cbv;refine⟨(out++[(m.row,q)],i'),⟨by dsimp only;omega,by dsimp only;omega,hT'⟩,by dsimp only;omega,?_⟩;refine .le ?_ ?_ rfl;{cbv;exact⟨lR,zR rfl (by simp[zB,qS,zK]),lR,trivial⟩};{cbv;exact⟨zC (by rw[m9,hmr,<-zV];rfl),trivial⟩}};{have ho:=hg2' e3;cbv;subst ho;refine⟨(out',i'),⟨by dsimp only;omega,by dsimp only;omega,hT'⟩,by dsimp only;omega,.le ?_ ?_ rfl⟩;{cbv;exact okA};{cbv;exact⟨zC rfl,trivial⟩}}
 obtain⟨u,hu⟩:=zY hlt';have hdr':=yI hu;rw[hdr',hgc] at kT;have cad:=Dy (zI q) u.c ((zX hq).mono oM) ((hLs u (z8 hu)).mono (by decide));rw[z7] at cad;have hq2:Fits (1+2^21*(i'+1)) (q+u.c.q):=(uS hq ((hLs u (z8 hu)).fits (by decide))).mono oM;have idx:∀ {K:List PV->Prop},K (mc u)->IdxOk 7 (λ_=>enc mc L) (λ_=>(i':Int)) K:=λhK=>wE (l:=L) i' rfl hlt' uX w7 (λm' hm'=>by rw[hu] at hm';cases hm';exact hK);have hne:¬u.row=m.row->i<i':=λh=>by
  rcases kO i i' with g|g;{exact g}
  ·(have:i'=i:=by omega);rw[this,hm] at hu
   exact absurd (by rw[u9 hu]) h
 have kT1:u.row=m.row->T=G m.row (q+u.c.q) (L.drop (i'+1)):=λh=>by rw[kT,if_pos h]
 have kT2:¬u.row=m.row->T=VJ m.row q (H (L.drop i')):=λh=>by rw[kT,if_neg h,hdr']
 clear kT;cbv;refine zP 13 (by cbv) ?_;cbv;refine wO (by rw[zB];exact om) ?_;cbv;refine idx ?_;cbv;refine QU ?_;cbv;refine zH (λe2=>?_) (λe2=>?_);{have kT':=kT1 e2;generalize hq':q+u.c.q=q' at *;generalize hR':zI q'=Q' at *;generalize zI q=Q at *;cbv;refine zP 7 (by cbv) ?_;cbv;refine idx ?_;cbv;refine dA cad ?_;cbv;refine⟨zF om om,(i'+1,q'),⟨by dsimp only;omega,by dsimp only;omega,kT',hq2⟩,by dsimp only;omega,.le ?_ ?_ rfl⟩;{cbv;exact⟨lR,lR,zG om,lR,lR,trivial⟩};{show leO _ [(7,.box (rwc m.row)),(8,.box [zM ((zI q').neg),nat (zI q').num,nat (zI q').den]),(55,z5 7 (enc mc (mR out)))];rw[hR'];cbv;exact⟨okA,okA,zC rfl,trivial⟩}}
 ·(have hTT:=kT2 e2;have hii:=hne e2;clear idx cad;have hT':M=gr out m.row q++H (L.drop i'):=by rw[hI,hTT,Ao]);have hgl:=An out m.row q
  have csq:=s86 (zI q) (xQ (zX hq).n oM);rw[z7] at csq;have hg1':0<yF q->gr out m.row q=out++[(m.row,q)]:=λh=>if_pos h;have hg2':¬0<yF q->gr out m.row q=out:=λh=>if_neg h;have hmr:mR [(m.row,q)]=[⟨m.row,zI q⟩]:=rfl;generalize gr out m.row q=out' at *;generalize yF q=sg at *;generalize zI q=Q at *;cbv;refine cA csq ?_;cbv;refine zH (λe3=>?_) (λe3=>?_);{have ho:=hg1' e3;cbv;subst ho;refine pB ?_;cbv;refine xY dE rfl rfl rfl (by simp only[zB,qS]) rfl ⟨by simp[zK,xC]⟩ (z3 (by simp only[zB,qS,zK,d5,dZ];omega) (by simp only[zB,qS,zK,d5,dZ];omega)) rfl ?_;cbv;refine⟨(out++[(m.row,q)],i'),⟨by dsimp only;omega,by dsimp only;omega,hT'⟩,by dsimp only;omega,?_⟩;refine .le ?_ ?_ rfl;{cbv;exact⟨lR,zR rfl (by simp[zB,qS,zK]),lR,trivial⟩};{cbv;exact⟨zC (by rw[m9,hmr,<-zV];rfl),trivial⟩}};{have ho:=hg2' e3;cbv;subst ho;refine⟨(out',i'),⟨by dsimp only;omega,by dsimp only;omega,hT'⟩,by dsimp only;omega,.le ?_ ?_ rfl⟩;{cbv;exact okA};{cbv;exact⟨zC rfl,trivial⟩}}
theorem Mx (l:List Mult)(hl:l.length<=12)(hs:Msz (2^20) l):zE 113 [mlv l] (.tup [mlv (mR (kD l).2),iV ((kD l).1)]):=Bf l oM hs (Ld l hl)
end Go.Proofs.YtboocdbmnfjomaaGreat
