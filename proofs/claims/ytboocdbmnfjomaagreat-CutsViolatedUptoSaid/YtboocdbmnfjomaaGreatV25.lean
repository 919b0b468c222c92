/- A part of the proof: RwE, DvB, DvC, SoA, RoE, CoA. -/
import Derived.Test.YtboocdbmnfjomaaGreatV24
import Derived.Test.YtboocdbmnfjomaaGreatV22
import Derived.Test.YtboocdbmnfjomaaGreatV21
import Derived.Laws.StructEq
import Derived.ChangeKeysEq
set_option linter.all false
namespace Go.Proofs.YtboocdbmnfjomaaGreat
open Go
set_option maxRecDepth 100000
set_option maxHeartbeats 2000000
theorem De {vars:Int}:∀ {l:List (Int×R)} {p:Int},vT vars p l=true->l.length=0\/(l.length:Int)<=vars-1-p
 |[],_,_=>.inl rfl
 |t::r,p,h=>by rw[eK] at h;simp only[xA,decide_eq_true_eq] at h;have:=De h.2;simp only[fH];omega
theorem Zm {a:A}{vars:Int}(h:a.valid vars=true)(hv:0<=vars):(a.ts.length:Int)<=vars:=by unfold A.valid at h;simp only[xA] at h;have:=De h.1;omega
theorem JB:∀ {l:List A} {k:Int} {a:A},vU k l=true->a∈l->∃ j:Nat,j<l.length/\a.valid (k+j)=true
 |f::r,k,a,h,ha=>by rw[HE,xA] at h;rcases yS.1 ha with rfl|ha;{exact⟨0,by simp,by simpa using h.1⟩};{obtain⟨j,h1,h2⟩:=JB h.2 ha;exact⟨j+1,by simpa using h1,by rw[show k+((j+1:Nat):Int)=k+1+j by omega];exact h2⟩}
structure Qry.vok (q:Qry):Prop where
 n1:1<=q.g.n
 n2:q.g.n<=256
 ul:q.g.us.length<=1024
 ol:q.g.os.length<=256
 rl:q.r.rows.length<=256
 lo:(q.r.lo.length:Int)=q.g.n
 hi:(q.r.hi.length:Int)=q.g.n
 up:∀ a,a∈q.g.us->a.ts.length<=2000
 op:∀ a,a∈q.g.os->a.ts.length<=2000
 rp:∀ a,a∈q.r.rows->a.ts.length<=2000
theorem Qry.vok_of {q:Qry}(h:q.valid=true):q.vok:=by unfold Qry.valid Grp.valid Reg.valid at h;simp only[xA,decide_eq_true_eq,bX] at h;obtain⟨⟨⟨⟨h1,h2⟩,h3⟩,⟨h4,h5⟩,h6⟩,h7⟩:=h;refine⟨h1.1,h1.2.1,h1.2.2.1,h1.2.2.2.2,h4.2.2.2.2,h4.2.2.1,h4.2.2.2.1,λa ha=>?_,λa ha=>?_,λa ha=>?_⟩;{obtain⟨j,g1,g2⟩:=JB h2 ha;have:=Zm g2 oM;omega};{have:=Zm (h3 a ha) (by unfold Grp.vars;omega);unfold Grp.vars at this;omega};{have:=Zm (h6 a ha) oM;omega}
def Scp.fm (s:Scp) (r:Row):Option F :=
 if r.k<1\/14<=r.k\/s.q.valid=false then none else if r.k<=4 then s.fIn r else s.fUn r
theorem bQ {k:Int}{len:Nat}{K:Nat->Prop}(j:Nat)(hk:k=(j:Int))(hj:j<len)(hK:K j):AtOk (λ_=>k) len K:=⟨⟨j,hk,hj,hK⟩⟩
theorem HX (s:Scp)(r:Row)(hs:s.sz (2^28)):zH 35 [sv s,rwv r] (.tup [fv ((s.fm r).getD F.zero),zM ((s.fm r).isSome)]):=by
 refine sF Tryz.f35 ?_;have cv:=mE s.q (hs.q.mono (by decide));have cin:=S7 s r hs;have cun:=λ(h:s.q.valid=true)=>Mt s r hs (Qry.vok_of h).n1 (Qry.vok_of h).n2 (Qry.vok_of h).ul (Qry.vok_of h).up;have f0:r.k<1->s.fm r=none:=λh=>if_pos (.inl h);have f1:14<=r.k->s.fm r=none:=λh=>if_pos (.inr (.inl h));have f2:s.q.valid=false->s.fm r=none:=λh=>if_pos (.inr (.inr h));have f3:s.q.valid=true->1<=r.k->r.k<=4->s.fm r=s.fIn r:=λh h1 h2=>by unfold Scp.fm;rw[if_neg (by rw[h];simp;omega),if_pos h2]
 have f4:s.q.valid=true->5<=r.k->r.k<14->s.fm r=s.fUn r:=λh h1 h2=>by unfold Scp.fm;rw[if_neg (by rw[h];simp;omega),if_neg oM]
 obtain⟨o,ho⟩:∃ o,o=s.fm r:=⟨_,rfl⟩;rw[<-ho] at f0 f1 f2 f3 f4 ⊢;obtain⟨W,hW⟩:∃ W,W=fA (o.getD F.zero):=⟨_,rfl⟩;obtain⟨b,hb⟩:∃ b,b=o.isSome:=⟨_,rfl⟩;rw[show fv (o.getD F.zero)=av W by rw[hW],<-hb];have fin1:o=none->W=⟨[],R0⟩/\b=false:=λh=>by rw[h] at hW hb;exact⟨hW.trans dP,hb⟩
 obtain⟨wt,w1,w2,w3⟩:=W;have fin3:o=none->wt=[]/\w1=false/\w2=[]/\w3=[]/\b=false:=λh=>by obtain⟨h1,h2⟩:=fin1 h;simp only[A.mk.injEq,R.mk.injEq] at h1;exact⟨h1.1,h1.2.1,h1.2.2.1,h1.2.2.2,h2⟩
 clear fin1;have g3:s.q.valid=true->1<=r.k->r.k<=4->zH 83 [sv s,rwv r] (.tup [av ⟨wt,w1,w2,w3⟩,zM b]):=λh h1 h2=>by rw[hW,hb,f3 h h1 h2];exact cin
 have g4:s.q.valid=true->5<=r.k->r.k<14->zH 85 [sv s,rwv r] (.tup [av ⟨wt,w1,w2,w3⟩,zM b]):=λh h1 h2=>by rw[hW,hb,f4 h h1 h2];exact cun h
 clear hW hb f3 f4 cin cun ho;generalize s.q.valid=vd at *;cbv;refine zX (λe1=>?_) (λe1=>?_);{cbv;obtain⟨q0,q1,q2,q3,q4⟩:=fin3 (f0 e1);subst q0 q1 q2 q3 q4;exact rA};cbv;refine zX (λe2=>?_) (λe2=>?_);{cbv;obtain⟨q0,q1,q2,q3,q4⟩:=fin3 (f1 e2);subst q0 q1 q2 q3 q4;exact rA};cbv;refine BN [2,3,4,6,18,16] [2,3,4,6] rfl rfl okA (cv) rfl ?_;cbv;refine zZ (λe3=>?_) (λe3=>?_)
 rotate_left
 {cbv;obtain⟨q0,q1,q2,q3,q4⟩:=fin3 (f2 e3);subst q0 q1 q2 q3 q4;exact rA};cbv;clear cv f0 f1 f2 fin3;have hk:r.k=1\/r.k=2\/r.k=3\/r.k=4\/r.k=5\/r.k=6\/r.k=7\/r.k=8\/r.k=9\/r.k=10\/r.k=11\/r.k=12\/r.k=13:=by omega
 refine BF 9 [2,3,4,6] [2,3,4,6] rfl (by cbv) ?_;cbv;rcases hk with hk|hk|hk|hk|hk|hk|hk|hk|hk|hk|hk|hk|hk;{have cc:=g3 e3 oM oM;clear g3 g4;refine bQ 1 hk (by decide) ?_;cbv;refine wK okA cc rfl ?_;cbv;exact rA};{have cc:=g3 e3 oM oM;clear g3 g4;refine bQ 2 hk (by decide) ?_;cbv;refine wK okA cc rfl ?_;cbv;exact rA};{have cc:=g3 e3 oM oM;clear g3 g4;refine bQ 3 hk (by decide) ?_;cbv;refine wK okA cc rfl ?_;cbv;exact rA};{have cc:=g3 e3 oM oM;clear g3 g4;refine bQ 4 hk (by decide) ?_;cbv;refine wK okA cc rfl ?_;cbv;exact rA};{have cc:=g4 e3 oM oM;clear g3 g4;refine bQ 5 hk (by decide) ?_;cbv;refine wK okA cc rfl ?_;cbv;exact rA};{have cc:=g4 e3 oM oM;clear g3 g4;refine bQ 6 hk (by decide) ?_;cbv;refine wK okA cc rfl ?_;cbv;exact rA};{have cc:=g4 e3 oM oM;clear g3 g4;refine bQ 7 hk (by decide) ?_;cbv;refine wK okA cc rfl ?_;cbv;exact rA};{have cc:=g4 e3 oM oM;clear g3 g4;refine bQ 8 hk (by decide) ?_;cbv;refine wK okA cc rfl ?_;cbv;exact rA};{have cc:=g4 e3 oM oM;clear g3 g4;refine bQ 9 hk (by decide) ?_;cbv;refine wK okA cc rfl ?_;cbv;exact rA};{have cc:=g4 e3 oM oM;clear g3 g4;refine bQ 10 hk (by decide) ?_;cbv;refine wK okA cc rfl ?_;cbv;exact rA};{have cc:=g4 e3 oM oM;clear g3 g4;refine bQ 11 hk (by decide) ?_;cbv;refine wK okA cc rfl ?_;cbv;exact rA};{have cc:=g4 e3 oM oM;clear g3 g4;refine bQ 12 hk (by decide) ?_;cbv;refine wK okA cc rfl ?_;cbv;exact rA};{have cc:=g4 e3 oM oM;clear g3 g4;refine bQ 13 hk (by decide) ?_;cbv;refine wK okA cc rfl ?_;cbv;exact rA}
theorem r7 {c:Rat}{k n m:Nat}(hc:Fits m c):∀ {a b:List (Int×Rat)},(∀ t,t∈a->Fits k t.2)->(∀ t,t∈b->Fits n t.2)->∀ u,u∈mrg c a b->Fits (k+n+m+1) u.2
 |[],[],_,_,u,h=>by rw[mrg] at h;exact absurd h (by simp)| a::aa,[],ha,hb,u,h=>by rw[mrg] at h;rcases qI h with rfl|h;{exact (ha a vH).mono oM};{exact r7 hc (λt ht=>ha t (w6 _ ht)) hb u h}
 |[],b::bb,ha,hb,u,h=>by rw[mrg] at h;rcases qI h with rfl|h;{exact (wG (hb b vH) hc).mono oM};{exact r7 hc ha (λt ht=>hb t (w6 _ ht)) u h}
 |a::aa,b::bb,ha,hb,u,h=>by rw[mrg] at h;split at h;{rcases qI h with rfl|h;{exact (ha a vH).mono oM};{exact r7 hc (λt ht=>ha t (w6 _ ht)) hb u h}};{split at h;{rcases qI h with rfl|h;{exact (wG (hb b vH) hc).mono oM};{exact r7 hc ha (λt ht=>hb t (w6 _ ht)) u h}};{rcases qI h with rfl|h;{exact (qE (ha a vH) (wG (hb b vH) hc)).mono oM};{exact r7 hc (λt ht=>ha t (w6 _ ht)) (λt ht=>hb t (w6 _ ht)) u h}}}
termination_by a b=>a.length+b.length
structure F.fl (f:F) (k n:Nat):Prop where
 t:∀ t,t∈f.ts->Fits k t.2
 c:Fits k f.c
 len:f.ts.length<=n
theorem F.fl.fit {f:F}{k n:Nat}(h:f.fl k n)(hn:n<2^38):f.fit k:=⟨⟨xR h.len hn,h.t⟩,h.c⟩
theorem F.fl.mono {f:F}{k n k' n':Nat}(h:f.fl k n)(hk:k<=k')(hn:n<=n'):f.fl k' n':=⟨λt ht=>(h.t t ht).mono hk,h.c.mono hk,vF h.len hn⟩
theorem F.fl.merge {f g:F}{c:Rat}{k n k' n' m:Nat}(hf:f.fl k n)(hg:g.fl k' n')(hc:Fits m c):(f.merge g c).fl (k+k'+m+1) (n+n') :=
 ⟨r7 hc hf.t hg.t,(qE hf.c (wG hg.c hc)).mono oM,vF (aF _ _ _) (Nat.add_le_add hf.len hg.len)⟩
theorem zero_fl:F.zero.fl 1 0:=⟨λt ht=>absurd ht (by simp[F.zero]),wJ (by decide),yQ _⟩
theorem gR (v:Int):(F.var v).fl 1 1:=⟨(pP v).t.fit,(pP v).c,yQ _⟩
theorem j6 {k:Nat}{q:Rat}(h:Fits k q):(F.num q).fl k 0:=⟨(aE h).t.fit,h,yQ _⟩
theorem F.fl.add {f g:F}{k n k' n':Nat}(hf:f.fl k n)(hg:g.fl k' n'):(f.add g).fl (k+k'+2) (n+n'):=(hf.merge hg fits_one).mono oM (yQ _)
theorem F.fl.sub {f g:F}{k n k' n':Nat}(hf:f.fl k n)(hg:g.fl k' n'):(f.sub g).fl (k+k'+2) (n+n'):=(hf.merge hg uZ).mono oM (yQ _)
theorem F.fl.scale {f:F}{c:Rat}{k n m:Nat}(hf:f.fl k n)(hc:Fits m c):(f.scale c).fl (k+m+2) n:=(F.fl.merge zero_fl hf hc).mono oM oM
theorem A.sz.fl {a:A}{k n:Nat}(h:a.sz k)(hk:1<=k)(hn:a.ts.length<=n):a.f.fl k n:=⟨(h.t.fit hk).fit,h.c.fits hk,by show (tq a.ts).length<=n;unfold tq;rw[yH];exact hn⟩
def sumL (s:Scp):F->List Mult->Option F
 |acc,[]=>some acc
 |acc,m::r=>match s.fm m.row with
  |none=>none| some f=>sumL s (acc.add (f.scale m.c.q)) r
def Scp.sum (s:Scp) (l:List Mult):Int×F:=if tK none l=false then (1,F.zero) else match sumL s F.zero l with
 |none=>(12,F.zero)| some f=>(0,f)

theorem dE:ty 66=.sli 7 88 [iV 0,iV 0,iV 0,iV 0,.ff,.nil,.nil]:=by cbv
theorem WP {t base x d ps K n b z xs}(ht:ty t=.sli n b z){m o len els}(hb:ev (zD ps.tmps) base=.osl m n o len)(ho:yK ps.objs m=some (.arr n els))(h0:els ()=[])(ho0:o ()=0)(hl:len ()=0)(hx:ev (zD ps.tmps) x=.sl xs)(hw:Wid n xs) (hr:Room (λ_=>((xs ()).length:Nat)) b) (hf:yO d ⟨xW (scr m) ps.tmps,y6 (scr m) (xK ps.objs m)⟩=true) (hK:K ⟨vQ (xW (scr m) ps.tmps) d (zT d n ((xs ()).length)),y6 (scr m) (xK ps.objs m)++[(d,.arr n xs)]⟩):AppK t base x (some d) ps K:=by
 have e1:(λ_:Unit=>(els ()).length+(xs ()).length)=λ_=>(xs ()).length:=funext λ_=>by simp[h0]
 have e2:(λ_:Unit=>els ()++xs ())=xs:=funext λ_=>by simp[h0]
 exact xT ht hb ho ho0 (by rw[hl,h0];rfl) hx hw (by simpa[h0] using hr) hf (by rw[e1,e2];exact hK)
abbrev mao (n:Nat) (l:List Mult):List (Nat×Obj'):=[(n,zW 7 (enc mc l))]
theorem NO (l:List Mult)(hl:l.length<2^38):Sound 176 [mlv l] [] [] (zT 100 7 l.length) [] (mao 100 l):=by
 refine sF Tryz.f176 ?_;cbv;refine⟨λb hb=>?_⟩;cbv;refine zZ (λh=>?_) (λh=>?_)
 ·(have hb':=hb h;have hl0:l=[]:=by have:=congrArg List.length hb';rw[zB] at this;exact gO this);cbv;subst hl0;refine Z9 (ps':=⟨[(2,zT 100 7 0)],[(100,zW 7 ([]))]⟩) 100 (.trans (.le (ps':=⟨[(2,.nil)],[]⟩) ?_ trivial rfl) (.adoptT (ps:=⟨[(2,.nil)],[]⟩) 100 7 2 rfl rfl)) rfl rfl rfl ?_;{cbv;exact okA};{cbv;exact zR rfl rfl}
 {cbv;refine xT dE rfl rfl rfl rfl rfl (wD x6 _) (zV om (by simp only[dU,zB];exact om)) rfl ?_;cbv;refine Z9 (ps':=⟨[(2,zT 7 7 l.length)],[(7,zW 7 (enc mc l))]⟩) 7 (.le ?_ ?_ rfl) rfl rfl rfl ?_;{cbv;exact⟨zR rfl (by simp[zB]),trivial⟩};{cbv;exact⟨zC rfl,trivial⟩};{cbv;exact lR}}
def iQ (x:Mult):List Mult->List Mult
 |[]=>[x]| y::r=>if bU x.row y.row<0 then y::iQ x r else x::y::r
def isr (l:List Mult):List Mult:=l.foldl (λa x=>iQ x a) []
theorem KI (x:Mult):∀ l,(iQ x l).length=l.length+1
 |[]=>rfl| y::r=>by unfold iQ;split <;> simp[KI x r]
theorem CT (l:List Mult)(x:Mult):isr (l++[x])=iQ x (isr l):=by unfold isr;rw[HB];rfl
theorem U4:∀ l,(isr l).length=l.length:=by
 have:∀ (l a:List Mult),(l.foldl (λa x=>iQ x a) a).length=a.length+l.length:=by
  intro l;induction l with
  |nil=>intro a;simp| cons x r ih=>intro a;rw[F2,ih,KI,fH];omega
 intro l;unfold isr;rw[this];simp
theorem AT {α:Type}(p b:List α)(x y:α):((p++y::x::b).set (p.length+1) y).set p.length x=p++x::y::b:=by rw[QH _ _ oM,QH _ _ oM];simp[show p.length+1-p.length=1 by omega]
theorem Gy {α:Type}{p:α->List PV}{n:Nat}{els:List (List D)}{i:Nat}{K:List PV->Prop}(l:List α)(he:els=enc p l)(j:Nat)(hk:i=j)(hj:j<l.length)(hf:∀ a,yX qT (p a)=true)(hn:∀ a,(p a).length=n) (hK:∀ a,l[j]?=some a->K (p a)):ElOk n (λ_=>els) (λ_=>i) K:=by subst he;exact sW j hk hj hf hn hK
theorem NL (l:List Mult)(hl:l.length<=12):Sound 243 [zT 1000000 7 l.length,iV 0,iV l.length,.fn 178 []] (mao 1000000 l) [] (.tup []) (mao 1000000 (isr l).reverse) []:=by
 refine sF Tryz.f243 ?_;obtain⟨P,hP⟩:∃ P:Nat->List Mult,∀ i,P i=isr (l.take i):=⟨_,λ_=>rfl⟩;have hPl:∀ i,i<=l.length->(P i).length=i:=λi hi=>by rw[hP,U4,xP];omega
 have hPs:∀ i x,l[i]?=some x->P (i+1)=iQ x (P i):=λi x hx=>by rw[hP,hP,rJ,hx];exact CT _ _
 have hP1:l≠[]->(P 1).reverse++l.drop 1=l:=λh=>by
  cases l with
  |nil=>exact absurd rfl h| cons x r=>rw[hP];rfl
 have hPe:isr l=P l.length:=by rw[hP,vV]
 have hP0:l=[]->P l.length=[]:=λh=>by rw[h,hP];rfl
 rw[hPe];have hins:∀ x y r,iQ x (y::r)=if bU x.row y.row<0 then y::iQ x r else x::y::r:=λ_ _ _=>rfl
 have hins0:∀ x,iQ x []=[x]:=λ_=>rfl;obtain⟨I,hI⟩:=ex iQ;rw[hI] at hPs hins hins0;clear hP hI hPe;have hcmp:=ML;generalize hN:P l.length=R at *;by_cases hle:l=[];{have hR:R=[]:=hP0 hle;subst hle hR;clear hPl hPs hP1 hP0 hN hins hins0;cbv;refine⟨zE (by decide) (by decide),?_⟩;refine zY (σ:=Unit) (λ_=>⟨[(2,iV 0),(8,iV 1)],[(1000000,zW 7 ([]))]⟩) (λ_=>True) (λ_=>0) () trivial (.le ?_ ?_ rfl) ?_;{cbv;exact⟨zF (by rfl),zF (by rfl),trivial⟩};{cbv;exact⟨zC rfl,trivial⟩};intro _ _;cbv;refine yA (by decide) ?_;cbv;exact tT rfl trivial rfl rfl rfl rfl};have hl1:1<=l.length:=by cases l with
  |nil=>exact absurd rfl hle| cons x r=>simp
 have hP1':=hP1 hle;clear hP1 hP0;cbv;refine⟨zE (by decide) (by decide),?_⟩;refine zY (σ:=Nat) (λi=>⟨[(0,zT 1000000 7 l.length),(1,iV 0),(2,iV l.length),(3,.fn 178 []),(8,iV i)],[(1000000,zW 7 (enc mc ((P i).reverse++l.drop i)))]⟩)
  (λi=>1<=i/\i<=l.length) (λi=>l.length-i) 1 ⟨om,hl1⟩ (.le ?_ ?_ rfl) ?_
 {cbv;exact⟨lR,lR,lR,zF (by rfl),trivial⟩};{cbv;exact⟨zC (by rw[hP1']),trivial⟩};clear hP1';intro i hi;obtain⟨hi1,hi2⟩:=hi;cbv;refine zG (λh5=>?_) (λh5=>?_)
 ·(have hlt:i<l.length:=by exact om);obtain⟨x,hx⟩:=yB hlt
  (have hdr:=yJ hx;have hPi:=hPs i x hx;have hPil:=hPl i hi2;have hPil1:=hPl (i+1) hlt;generalize hrest:l.drop (i+1)=rest at *;have hrl:rest.length=l.length-(i+1):=by rw[<-hrest,uP]);generalize hp0:P i=p0 at *
  generalize hp1:P (i+1)=p1 at *;clear hPs hPl;cbv;refine zY (σ:=List Mult×List Mult) (λs=>⟨[(0,zT 1000000 7 l.length),(1,iV 0),(2,iV l.length),(3,.fn 178 []),(8,iV i),(9,iV s.1.length)],[(1000000,zW 7 (enc mc (s.1.reverse++x::(s.2.reverse++rest))))]⟩)
   (λs=>s.1.length+s.2.length=i/\p1=s.2++I x s.1) (λs=>s.1.length) (p0,[]) ⟨by simp[hPil],hPi⟩ (.le ?_ ?_ rfl) ?_
  {cbv;exact⟨lR,lR,lR,lR,zF (by exact om),trivial⟩};{cbv;exact⟨zC (by rw[hdr];simp),trivial⟩};intro s hs;obtain⟨hL,hT⟩:=hs;generalize s.1=pr at *;generalize s.2=qr at *;cases pr with
  |nil =>
   (have hT':p1=qr++[x]:=by rw[hT,hins0]);cbv
   refine zP 17 (by cbv) ?_;cbv;refine yF (by simp) ?_;cbv;refine⟨zE om om,i+1,⟨om,om⟩,om,.le ?_ ?_ rfl⟩;{cbv;exact⟨lR,lR,lR,zF om,trivial⟩};{cbv;exact⟨zC (by rw[hp1,hrest,hT'];simp),trivial⟩}
  |cons y pr =>
   (rw[hins] at hT;have hc:=hcmp x y;have hlen:(pr.reverse++y::x::(qr.reverse++rest)).length=l.length:=by simp only[alT53,tN,fH] at hL ⊢;omega);have earr:(y::pr).reverse++x::(qr.reverse++rest)=pr.reverse++y::x::(qr.reverse++rest):=by simp
   (have hgj:(pr.reverse++y::x::(qr.reverse++rest))[pr.length+1]?=some x:=by rw[dB (by simp)];simp[show pr.length+1-pr.length=1 by omega]);have hgj1:(pr.reverse++y::x::(qr.reverse++rest))[pr.length]?=some y:=by rw[dB (by simp)];simp
   have hset:((pr.reverse++y::x::(qr.reverse++rest)).set (pr.length+1) y).set pr.length x=pr.reverse++x::((qr++[y]).reverse++rest):=by have:=AT pr.reverse (qr.reverse++rest) x y;rw[tN] at this;rw[this];simp
   (rw[fH] at hL;simp only[earr,fH];generalize hA:pr.reverse++y::x::(qr.reverse++rest)=arr at *;generalize bU x.row y.row=cr at *;cbv;refine zP 17 (by cbv) ?_;cbv;refine wU (by exact om) ?_;cbv;refine⟨z9 om om,?_⟩;cbv;refine sW (l:=arr) (pr.length+1) om oM w5 x6 (λt ht=>?_);obtain rfl:x=t:=by rw[hgj] at ht;exact qP ht);cbv
   (refine⟨zE om om,z9 om om,?_⟩;cbv;refine sW (l:=arr) pr.length om oM w5 x6 (λt' ht'=>?_);obtain rfl:y=t':=by rw[hgj1] at ht';exact qP ht');cbv
   refine dA hc ?_;cbv;refine zG (λe1=>?_) (λe1=>?_)
   ·(rw[if_pos e1] at hT;cbv;refine YQ 17 15 (by cbv) (by cbv) ?_;cbv;refine⟨zE om om,zE om om,z9 om om,?_⟩;cbv;refine sW (l:=arr) pr.length om oM w5 x6 (λt' ht'=>?_);obtain rfl:y=t':=by rw[hgj1] at ht';exact qP ht');cbv
    (refine⟨z9 om om,?_⟩;cbv;refine sW (l:=arr) (pr.length+1) om oM w5 x6 (λt ht=>?_);obtain rfl:x=t:=by rw[hgj] at ht;exact qP ht);cbv
    refine⟨z9 om om,?_⟩;cbv;refine sW (l:=arr) (pr.length+1) om oM w5 x6 (λt0 ht0=>?_);cbv;refine⟨z9 om om,Gy (p:=mc) (arr.set (pr.length+1) y) ?_ pr.length om (by rw[dV];omega) w5 x6 (λt1 ht1=>?_)⟩;{show (enc mc arr).set (0+((pr.length+1:Nat):Int).toNat) (y7 (mc y))=_;rw[aM];congr 2;omega};cbv;refine⟨zE om om,(pr,qr++[y]),⟨by simp;omega,by rw[hT];simp⟩,by simp,.le ?_ ?_ rfl⟩;{cbv;exact⟨lR,lR,lR,lR,zF om,trivial⟩};{cbv;refine⟨zC ?_,trivial⟩;show ((enc mc arr).set (0+((pr.length+1:Nat):Int).toNat) (y7 (mc y))).set (0+(((pr.length+1:Nat):Int)-1).toNat) (y7 (mc x))=_;rw[aM,aM,<-hset];congr 3 <;> omega}
   {rw[if_neg e1] at hT;cbv;refine⟨zE om om,i+1,⟨om,om⟩,om,.le ?_ ?_ rfl⟩;{cbv;exact⟨lR,lR,lR,zF om,trivial⟩};{cbv;exact⟨zC (by rw[hp1,hrest,hT,<-hA];simp),trivial⟩}}
 ·(have hi':i=l.length:=by exact om);subst hi'
  cbv;refine Xt (.le (ps':=⟨[],[(1000000,zW 7 (enc mc R.reverse))]⟩) ?_ ?_ rfl) rfl trivial rfl rfl rfl rfl;{trivial};{cbv;exact⟨zC (by rw[hN];simp),trivial⟩}
theorem NI (l:List Mult)(hl:l.length<=12):Sound 221 [zT 1000000 7 l.length,iV l.length,.fn 178 []] (mao 1000000 l) [] (.tup []) (mao 1000000 (isr l).reverse) []:=by
 refine sF Tryz.f221 ?_;have ci:=NL l hl;have hel:(isr l).reverse.length=l.length:=by rw[tN,U4]
 generalize (isr l).reverse=R at *;cbv;refine zY (σ:=Unit) (λ_=>⟨[(0,zT 1000000 7 l.length),(1,iV l.length),(2,.fn 178 []),(6,iV 20),(7,iV 0),(8,iV 20)],mao 1000000 l⟩) (λ_=>True) (λ_=>0) () trivial (.le ?_ ?_ rfl) ?_;{cbv;exact okA};{cbv;exact⟨zC rfl,trivial⟩};intro _ _;cbv;refine yA (by exact om) ?_;cbv;refine kB (λn=>n) (Wk.sel _ [1,6,23,24,25,26] [1000000] rfl) rfl (by exact⟨lR,lR,lR,⟨rfl,trivial⟩,trivial⟩) ci ?_;cbv;refine zY (σ:=Unit) (λ_=>⟨[(1,iV l.length),(6,iV 20)],mao 1000000 R⟩) (λ_=>True) (λ_=>0) () trivial (.le ?_ ?_ rfl) ?_;{cbv;exact okA};{cbv;exact⟨zC rfl,trivial⟩};intro _ _;cbv;refine yA (by exact om) ?_;cbv;exact tT rfl trivial rfl rfl rfl rfl
theorem Ms (l:List Mult)(hl:l.length<=12):Sound 177 [zT 1000000 7 l.length,.fn 178 []] (mao 1000000 l) [] (.tup []) (mao 1000000 (isr l).reverse) []:=by refine sF Tryz.f177 ?_;have ci:=NI l hl;generalize (isr l).reverse=R at *;cbv;refine kB (λn=>n) (.refl _) rfl (by exact⟨lR,lR,⟨rfl,trivial⟩,trivial⟩) ci ?_;cbv;exact tT rfl trivial rfl rfl rfl rfl
abbrev fld (s : String) (o b : Nat) : Field := { name := s, type := 3, offset := o, embedded := false, tag := "", pkgPath := "", byteOffset := b }
theorem Sk:Pg.underlying 75=some (.struct (Pg.fieldsOf 75)):=by rw[vI];kernel_rfl
theorem Cf : (Pg.fieldsOf 75).toList = [fld "Kind" 0 0, fld "Index" 1 8, fld "Lo" 2 16, fld "Hi" 3 24] := by rw [vI]; kernel_rfl
theorem Ce:Pg.stoodInHeld 75=false:=by rw[vI];kernel_rfl
theorem VE:Pg.eqGuardType Pg.depth 75=false:=by rw[vI];kernel_rfl
theorem nV:Pg.plainKey 3=true:=by rw[vI];kernel_rfl
theorem Sx:Pg.underlying 3=some (.int .i64):=by rw[vI];kernel_rfl
abbrev eW (a:Row):Array Value:=#[.int .i64 a.k,.int .i64 a.i,.int .i64 a.lo,.int .i64 a.hi]
theorem VF (a b:Row)(w:World):(Op.equalIn 10000 75 (.agg (eW a)) (.agg (eW b))).run Pg w=.ok (decide (a=b)) w:=by
 rw[show (10000:Nat)=9999+1 from rfl,run_equalIn_agg w 9999 _ _ _ Sk Ce,Cf];have p0:∀ (c:Row),(part 3 (eW c) 0).run Pg w=.ok (.int .i64 c.k) w:=λc=>run_part_plain _ nV rfl;have p1:∀ (c:Row),(part 3 (eW c) 1).run Pg w=.ok (.int .i64 c.i) w:=λc=>run_part_plain _ nV rfl;have p2:∀ (c:Row),(part 3 (eW c) 2).run Pg w=.ok (.int .i64 c.lo) w:=λc=>run_part_plain _ nV rfl;have p3:∀ (c:Row),(part 3 (eW c) 3).run Pg w=.ok (.int .i64 c.hi) w:=λc=>run_part_plain _ nV rfl;have q:∀ (x y:Int),(Op.equalIn 9999 3 (.int .i64 x) (.int .i64 y)).run Pg w=.ok (x == y) w:=λx y=>run_equalIn_int w 9998 _ .i64 .i64 x y Sx;have e:decide (a=b)=((a.k == b.k)&&((a.i == b.i)&&((a.lo == b.lo)&&(a.hi == b.hi)))):=by obtain⟨a1,a2,a3,a4⟩:=a;obtain⟨b1,b2,b3,b4⟩:=b;rw[rK];simp
 rw[e];simp only[Op.eqFields,Sem.run_bind,Sem.run_ite,p0,p1,p2,p3,q,Result.andThen_ok,Sem.run_pure];generalize (a.k == b.k)=x0;generalize (a.i == b.i)=x1;generalize (a.lo == b.lo)=x2;generalize (a.hi == b.hi)=x3;cases x0 <;> cases x1 <;> cases x2 <;> cases x3 <;> rfl
theorem Qj {x y:Operand}{a b:Row}{K:PV->Prop}(hK:K (zM (decide (a=b)))):EqS .eql 75 x y [.i λ_=>a.k,.i λ_=>a.i,.i λ_=>a.lo,.i λ_=>a.hi] [.i λ_=>b.k,.i λ_=>b.i,.i λ_=>b.lo,.i λ_=>b.hi] K:=by refine⟨⟨decide (a=b),λw=>?_,hK⟩⟩;show (do eqGuard .eql 75 x y (.agg (eW a)) (.agg (eW b));binOp .eql 75 (.agg (eW a)) (.agg (eW b)):Sem Value).run Pg w=_;simp only[Sem.run_bind,run_eqGuard_agg w .eql _ x y _ _ VE,Result.andThen_ok,run_eql_struct,VF]
theorem CE {x y:Operand}{a b:Row}{K:PV->Prop}(hK:K (zM (!(decide (a=b))))):EqS .neq 75 x y [.i λ_=>a.k,.i λ_=>a.i,.i λ_=>a.lo,.i λ_=>a.hi] [.i λ_=>b.k,.i λ_=>b.i,.i λ_=>b.lo,.i λ_=>b.hi] K:=by refine⟨⟨!(decide (a=b)),λw=>?_,hK⟩⟩;show (do eqGuard .neq 75 x y (.agg (eW a)) (.agg (eW b));binOp .neq 75 (.agg (eW a)) (.agg (eW b)):Sem Value).run Pg w=_;simp only[Sem.run_bind,run_eqGuard_agg w .neq _ x y _ _ VE,Result.andThen_ok,run_neq_struct,VF]
def mR (l:List (Row×Rat)):List Mult:=l.map λt=>⟨t.1,zK t.2⟩
theorem qL (l:List (Row×Rat)):(mR l).length=l.length:=by simp[mR]
theorem mS (l m:List (Row×Rat)):mR (l++m)=mR l++mR m:=by simp[mR]
def Ve (r:Row) (q:Rat) (rest:List (Row×Rat)):List (Row×Rat):=if 0<yG q then (r,q)::rest else rest
def iR (r:Row) (q:Rat):List Mult->List (Row×Rat)
 |[]=>Ve r q []| m::t=>if m.row=r then iR r (q+m.c.q) t else Ve r q (iR m.row (0+m.c.q) t)
def grp:List Mult->List (Row×Rat)
 |[]=>[]| m::t=>iR m.row 0 (m::t)
theorem FE (r:Row)(q:Rat)(m:Mult)(t:List Mult):iR r q (m::t)=if m.row=r then iR r (q+m.c.q) t else Ve r q (grp (m::t)):=by rw[show iR r q (m::t)=if m.row=r then iR r (q+m.c.q) t else Ve r q (iR m.row (0+m.c.q) t) from rfl];rw[show grp (m::t)=iR m.row 0 (m::t) from rfl,show iR m.row 0 (m::t)=if m.row=m.row then iR m.row (0+m.c.q) t else Ve m.row 0 (iR m.row (0+m.c.q) t) from rfl,if_pos rfl]
def gr (l:List (Row×Rat)) (r:Row) (q:Rat):List (Row×Rat):=if 0<yG q then l++[(r,q)] else l
theorem C9 (l:List (Row×Rat))(r:Row)(q:Rat)(rest):gr l r q++rest=l++Ve r q rest:=by unfold gr Ve;split <;> simp
theorem C8 (l:List (Row×Rat))(r:Row)(q:Rat):(gr l r q).length<=l.length+1:=by unfold gr;split <;> simp
def kD (l:List Mult):Int×List (Row×Rat):=if (l.any λm=>decide (yG m.c.q<0))=true then (1,[]) else (0,grp (isr l).reverse)
theorem KH {x m:Mult}:∀ {l},m∈iQ x l->m=x\/m∈l
 |[],h=>by simp[iQ] at h;exact .inl h| y::r,h=>by unfold iQ at h;split at h;{rcases yS.1 h with rfl|h;{exact .inr vH};{rcases KH h with h|h;{exact .inl h};{exact .inr (w6 _ h)}}};{exact yS.1 h}
theorem Sw {m:Mult}:∀ {l:List Mult},m∈isr l->m∈l:=by
 have:∀ (l a:List Mult),m∈l.foldl (λa x=>iQ x a) a->m∈a\/m∈l:=by
  intro l;induction l with
  |nil=>intro a h;exact .inl h| cons x r ih =>
   intro a h;rcases ih _ h with h|h;{rcases KH h with h|h;{exact .inr (by rw[h];exact vH)};{exact .inl h}};{exact .inr (w6 _ h)}
 intro l h;rcases this l [] h with h|h;{exact absurd h (by simp)};{exact h}
theorem D4 (l:List Mult)(hl:l.length<=4096)(hs:Msz (2^20) l)(c2:Sound 177 [zT 1000000 7 l.length,.fn 178 []] (mao 1000000 l) [] (.tup []) (mao 1000000 (isr l).reverse) []):zH 113 [mlv l] (.tup [mlv (mR (kD l).2),iV ((kD l).1)]):=by
 refine sF Tryz.f113 ?_;have c0:=MJ (λm=>decide (yG m.c.q<0)) l oM 175 [] (λm hm=>MM m (xR (hs.sz m hm).n (by decide)));have c1:=NO l oM;have hLl:(isr l).reverse.length=l.length:=by rw[tN,U4]
 have hLs:∀ m,m∈(isr l).reverse->m.c.sz (2^20):=λm hm=>hs.sz m (Sw (by simpa using hm));have d0:(l.any λm=>decide (yG m.c.q<0))=true->kD l=(1,[]):=λh=>if_pos h;have d1:(l.any λm=>decide (yG m.c.q<0))=false->kD l=(0,grp (isr l).reverse):=λh=>if_neg (by rw[h];decide);generalize (l.any λm=>decide (yG m.c.q<0))=neg at *;generalize (isr l).reverse=L at *;obtain⟨M,hM⟩:∃ M,M=(kD l).2:=⟨_,rfl⟩;obtain⟨e,he⟩:∃ e,e=(kD l).1:=⟨_,rfl⟩;rw[<-hM,<-he];have e0:neg=true->M=[]/\e=1:=λh=>by rw[d0 h] at hM he;exact⟨hM,he⟩
 have e1:neg=false->M=grp L/\e=0:=λh=>by rw[d1 h] at hM he;exact⟨hM,he⟩
 clear d0 d1 hM he;have hgc:=FE;have hge:∀ r q,iR r q []=Ve r q []:=λ_ _=>rfl;have hg0:grp []=[]:=rfl;have hg1:∀ m t,grp (m::t)=iR m.row 0 (m::t):=λ_ _=>rfl;obtain⟨G,hG⟩:=ex iR;obtain⟨H,hH⟩:=ex grp;rw[hG,hH] at hgc;rw[hG] at hge;rw[hH] at hg0;rw[hG,hH] at hg1;rw[hH] at e1;clear hG hH;cbv;refine xI rfl (by exact⟨lR,⟨rfl,trivial⟩,trivial⟩) c0 rfl ?_;cbv;refine zZ (λh=>?_) (λh=>?_);{obtain⟨q1,q2⟩:=e0 h;subst q1 q2;cbv;exact rA};obtain⟨hM,q2⟩:=e1 h;subst q2;clear e0 e1 c0;cbv;refine kW (λ_=>300) (Wk.sel _ [11] [] rfl) c1 ?_;cbv;refine kB (λ_=>300) (Wk.sel _ [4,13] [300] rfl) rfl (by exact⟨lR,⟨rfl,trivial⟩,trivial⟩) c2 ?_;cbv;clear c1 c2;refine zY (σ:=List (Row×Rat)×Nat) (λs=>⟨[(4,mlv L),(5,zT 55 7 s.1.length),(6,iV s.2)],[(55,zW 7 (enc mc (mR s.1)))]⟩)
  (λs=>s.2<=L.length/\s.1.length<=s.2/\M=s.1++H (L.drop s.2)) (λs=>L.length-s.2) ([],0) ⟨om,by simp,by rw[hM];rfl⟩
  (.trans (.frz 300 rfl rfl ?_ ?_) (.trans (.le (ps':=⟨[(4,mlv L),(5,.nil),(6,iV (((0:Nat):Int)))],[]⟩) ?_ trivial rfl) (.trans (.adoptT (ps:=⟨[(4,mlv L),(5,.nil),(6,iV (((0:Nat):Int)))],[]⟩) 55 7 5 rfl rfl) (.le ?_ ?_ rfl)))) ?_
 {cbv;exact⟨z6 (by rw[zB];omega),z6 (by rw[zB];omega),trivial⟩};{exact trivial};{cbv;exact⟨zU (yU (by rw[vS,zB];omega)),lR,zF rfl,trivial⟩};{cbv;exact⟨lR,zR rfl rfl,lR,trivial⟩};{cbv;exact⟨zC rfl,trivial⟩};clear hM;intro s hs';obtain⟨h1,h2,hI⟩:=hs';generalize s.1=out at *;generalize s.2=i at *;cbv;refine zG (λh5=>?_) (λh5=>?_)
 rotate_left
 ·(have hi:i=L.length:=by rw[zB] at h5;exact om);rw[hi,vE,hg0,vM] at hI
  cbv;subst hI;refine bW _ (.trans (.le (ps':=⟨[(2,zT 55 7 M.length),(3,iV 0)],[(55,zW 7 (enc mc (mR M)))]⟩) ?_ ?_ rfl) (.frz 55 rfl rfl ?_ ?_)) rfl ?_;{cbv;exact okA};{cbv;exact⟨zC rfl,trivial⟩};{cbv;exact⟨z6 (by simp[zB,qL]),trivial⟩};{exact trivial};{cbv;exact⟨zU (yU (by simp[zB,qL])),lR,trivial⟩}
 have hlt:i<L.length:=by rw[zB] at h5;exact om
 obtain⟨m,hm⟩:=yB hlt;have hdr:=yJ hm;rw[hdr,hg1] at hI;have idx:∀ {K:List PV->Prop},K (mc m)->IdxOk 7 (λ_=>enc mc L) (λ_=>(i:Int)) K:=λhK=>wB (l:=L) i rfl hlt w5 x6 (λm' hm'=>by rw[hm] at hm';cases hm';exact hK);generalize hT0:G m.row 0 (m::L.drop (i+1))=T at *;cbv;refine idx ?_;cbv;clear idx;refine zY (σ:=Nat×Rat) (λs=>⟨[(4,mlv L),(5,zT 55 7 out.length),(6,iV s.1),(7,.ptr 7 0),(8,.ptr 8 0)],[(7,.box (rwc m.row)),(8,.box [zM ((zK s.2).neg),nat (zK s.2).num,nat (zK s.2).den]),(55,zW 7 (enc mc (mR out)))]⟩)
  (λs=>i<=s.1/\s.1<=L.length/\T=G m.row s.2 (L.drop s.1)/\Fits (1+2^21*s.1) s.2) (λs=>L.length-s.1) (i,0) ⟨yQ _,h1,by rw[<-hT0,hdr],wJ oM⟩ (.le ?_ ?_ rfl) ?_
 {cbv;exact okA};{show leO _ [(7,.box (rwc m.row)),(8,.box [zM ((zK 0).neg),nat (zK 0).num,nat (zK 0).den]),(55,zW 7 (enc mc (mR out)))];rw[uI];cbv;exact⟨okA,okA,zC rfl,trivial⟩};clear hT0;intro s hs';obtain⟨k1,k2,kT,hq⟩:=hs';generalize s.1=i' at *;generalize s.2=q at *;by_cases hlt':i'<L.length
 rotate_left
 ·(have hi':i'=L.length:=by omega);have hTT:T=Ve m.row q (H (L.drop i')):=by rw[kT,hi',vE,hge,hg0]
  (obtain⟨Q0,hQ0⟩:=ex (zK q);cbv;refine zP 13 (by cbv) ?_;cbv;refine yF (by rw[zB];exact om) ?_;clear hQ0;have hT':M=gr out m.row q++H (L.drop i'):=by rw[hI,hTT,C9]);have hgl:=C8 out m.row q
  have csq:=s86 (zK q) (xR (z5 hq).n oM);rw[yD] at csq;have hg1':0<yG q->gr out m.row q=out++[(m.row,q)]:=λh=>if_pos h;have hg2':¬0<yG q->gr out m.row q=out:=λh=>if_neg h;have hmr:mR [(m.row,q)]=[⟨m.row,zK q⟩]:=rfl;generalize gr out m.row q=out' at *;generalize yG q=sg at *;generalize zK q=Q at *;cbv;refine cA csq ?_;cbv;refine zG (λe3=>?_) (λe3=>?_);{have ho:=hg1' e3;cbv;subst ho;refine rU ?_;cbv;refine xT dE rfl rfl rfl (by simp only[zB,qL]) rfl ⟨by simp[zI,y7]⟩ (zV (by simp only[zB,qL,zI,fH,dU];omega) (by simp only[zB,qL,zI,fH,dU];omega)) rfl ?_;cbv;refine⟨(out++[(m.row,q)],i'),⟨by dsimp only;omega,by dsimp only;omega,hT'⟩,by dsimp only;omega,?_⟩;refine .le ?_ ?_ rfl;{cbv;exact⟨lR,zR rfl (by simp[zB,qL,zI]),lR,trivial⟩};{cbv;exact⟨zC (by rw[mS,hmr,<-z3];rfl),trivial⟩}};{have ho:=hg2' e3;cbv;subst ho;refine⟨(out',i'),⟨by dsimp only;omega,by dsimp only;omega,hT'⟩,by dsimp only;omega,.le ?_ ?_ rfl⟩;{cbv;exact okA};{cbv;exact⟨zC rfl,trivial⟩}}
 obtain⟨u,hu⟩:=yB hlt';have hdr':=yJ hu;rw[hdr',hgc] at kT;have cad:=Fj (zK q) u.c ((z5 hq).mono oM) ((hLs u (yE hu)).mono (by decide));rw[yD] at cad;have hq2:Fits (1+2^21*(i'+1)) (q+u.c.q):=(qE hq ((hLs u (yE hu)).fits (by decide))).mono oM;have idx:∀ {K:List PV->Prop},K (mc u)->IdxOk 7 (λ_=>enc mc L) (λ_=>(i':Int)) K:=λhK=>wB (l:=L) i' rfl hlt' w5 x6 (λm' hm'=>by rw[hu] at hm';cases hm';exact hK);have hne:¬u.row=m.row->i<i':=λh=>by
  rcases uG i i' with g|g;{exact g}
  ·(have:i'=i:=by omega);rw[this,hm] at hu
   exact absurd (by rw[qP hu]) h
 have kT1:u.row=m.row->T=G m.row (q+u.c.q) (L.drop (i'+1)):=λh=>by rw[kT,if_pos h]
 have kT2:¬u.row=m.row->T=Ve m.row q (H (L.drop i')):=λh=>by rw[kT,if_neg h,hdr']
 clear kT;cbv;refine zP 13 (by cbv) ?_;cbv;refine wU (by rw[zB];exact om) ?_;cbv;refine idx ?_;cbv;refine Qj ?_;cbv;refine zG (λe2=>?_) (λe2=>?_);{have kT':=kT1 e2;generalize hq':q+u.c.q=q' at *;generalize hR':zK q'=Q' at *;generalize zK q=Q at *;cbv;refine zP 7 (by cbv) ?_;cbv;refine idx ?_;cbv;refine dA cad ?_;cbv;refine⟨zE om om,(i'+1,q'),⟨by dsimp only;omega,by dsimp only;omega,kT',hq2⟩,by dsimp only;omega,.le ?_ ?_ rfl⟩;{cbv;exact⟨lR,lR,zF om,lR,lR,trivial⟩};{show leO _ [(7,.box (rwc m.row)),(8,.box [zM ((zK q').neg),nat (zK q').num,nat (zK q').den]),(55,zW 7 (enc mc (mR out)))];rw[hR'];cbv;exact⟨okA,okA,zC rfl,trivial⟩}}
 ·(have hTT:=kT2 e2;have hii:=hne e2;clear idx cad;have hT':M=gr out m.row q++H (L.drop i'):=by rw[hI,hTT,C9]);have hgl:=C8 out m.row q
  have csq:=s86 (zK q) (xR (z5 hq).n oM);rw[yD] at csq;have hg1':0<yG q->gr out m.row q=out++[(m.row,q)]:=λh=>if_pos h;have hg2':¬0<yG q->gr out m.row q=out:=λh=>if_neg h;have hmr:mR [(m.row,q)]=[⟨m.row,zK q⟩]:=rfl;generalize gr out m.row q=out' at *;generalize yG q=sg at *;generalize zK q=Q at *;cbv;refine cA csq ?_;cbv;refine zG (λe3=>?_) (λe3=>?_);{have ho:=hg1' e3;cbv;subst ho;refine rU ?_;cbv;refine xT dE rfl rfl rfl (by simp only[zB,qL]) rfl ⟨by simp[zI,y7]⟩ (zV (by simp only[zB,qL,zI,fH,dU];omega) (by simp only[zB,qL,zI,fH,dU];omega)) rfl ?_;cbv;refine⟨(out++[(m.row,q)],i'),⟨by dsimp only;omega,by dsimp only;omega,hT'⟩,by dsimp only;omega,?_⟩;refine .le ?_ ?_ rfl;{cbv;exact⟨lR,zR rfl (by simp[zB,qL,zI]),lR,trivial⟩};{cbv;exact⟨zC (by rw[mS,hmr,<-z3];rfl),trivial⟩}};{have ho:=hg2' e3;cbv;subst ho;refine⟨(out',i'),⟨by dsimp only;omega,by dsimp only;omega,hT'⟩,by dsimp only;omega,.le ?_ ?_ rfl⟩;{cbv;exact okA};{cbv;exact⟨zC rfl,trivial⟩}}
theorem PH (l:List Mult)(hl:l.length<=12)(hs:Msz (2^20) l):zH 113 [mlv l] (.tup [mlv (mR (kD l).2),iV ((kD l).1)]):=D4 l oM hs (Ms l hl)
end Go.Proofs.YtboocdbmnfjomaaGreat
