/- A part of the proof: RgB. -/
import Derived.Test.YtaeaffgjdcigoaaGreatC23
set_option linter.all false
namespace Go.Proofs.YtaeaffgjdcigoaaGreat
open Go
set_option maxRecDepth 100000
set_option maxHeartbeats 1000000
theorem aV (v:Int)(q:Rat):∀ {l:List (Int×Rat)},(∀ t,t∈l->t.1≠v)->Cn l->xF v q true l=l
 |[],_,_=>rfl| t::r,h,hc=>by have h1:=h t xM;have ih:=aV v q (fun u hu=>h u (xN _ hu)) hc.tail;rw[show xF v q true (t::r)=if t.1=v then pc t.1 (t.2+q) (xF v q true r) else if true=false/\v<t.1 then pc v q (pc t.1 t.2 (xF v q true r)) else pc t.1 t.2 (xF v q true r) from rfl];rw[if_neg h1,if_neg (by simp),ih];unfold pc;rw[if_neg hc.hd]
theorem zCE (v:Int)(q:Rat)(t:Int×Rat)(r:List (Int×Rat)):xF v q false (t::r)=if t.1=v then pc t.1 (t.2+q) (xF v q true r) else if v<t.1 then pc v q (pc t.1 t.2 (xF v q true r)) else pc t.1 t.2 (xF v q false r):=by rw[show xF v q false (t::r)=if t.1=v then pc t.1 (t.2+q) (xF v q true r) else if false=false/\v<t.1 then pc v q (pc t.1 t.2 (xF v q true r)) else pc t.1 t.2 (xF v q false r) from rfl];simp only[true_and]
theorem rO {v:Int}{q:Rat}:∀ {d:Bool} {l:List (Int×Rat)} {u},u∈xF v q d l->u.1=v\/∃ t,t∈l/\t.1=u.1
 |true,[],u,h=>absurd h (by simp[xF])| false,[],u,h=>by rcases qF (show u∈pc v q [] from h) with rfl|h;{exact .inl rfl};{exact absurd h (by simp)}
 |d,t::r,u,h=>by unfold xF at h;split at h;{rcases qF h with rfl|h;{exact .inr ⟨t,xM,rfl⟩};{rcases rO h with h|⟨w,h1,h2⟩;{exact .inl h};{exact .inr ⟨w,xN _ h1,h2⟩}}};{split at h;{rcases qF h with rfl|h;{exact .inl rfl};{rcases qF h with rfl|h;{exact .inr ⟨t,xM,rfl⟩};{rcases rO h with h|⟨w,h1,h2⟩;{exact .inl h};{exact .inr ⟨w,xN _ h1,h2⟩}}}};{rcases qF h with rfl|h;{exact .inr ⟨t,xM,rfl⟩};{rcases rO h with h|⟨w,h1,h2⟩;{exact .inl h};{exact .inr ⟨w,xN _ h1,h2⟩}}}}
theorem Cn.plus {v:Int}{q:Rat}:∀ {l:List (Int×Rat)},Cn l->Cn (xF v q false l)
 |[],_=>Cn.pc Cn.nil (fun u hu=>absurd hu (by simp))| t::r,h=>by rw[zCE];split;{rename_i e;rw[aV v q (fun u hu=>by have:=h.lt u hu;omega) h.tail];exact Cn.pc h.tail h.lt};{split;{rename_i e1 e2;rw[aV v q (fun u hu=>by have:=h.lt u hu;omega) h.tail];refine Cn.pc (Cn.pc h.tail h.lt) fun u hu=>?_;rcases qF hu with rfl|hu;{exact e2};{exact Int.lt_trans e2 (h.lt u hu)}};{rename_i e1 e2;refine Cn.pc (Cn.plus h.tail) fun u hu=>?_;rcases rO hu with e|⟨w,g1,g2⟩;{rw[e];omega};{rw[<-g2];exact h.lt w g1}}}
theorem o6 {v:Int}{q:Rat}(w:Int):∀ {l:List (Int×Rat)},Cn l->co (xF v q false l) w=co l w+if v=w then q else 0
 |[],_=>by show co (pc v q []) w=_;rw[lT];simp only[co];grind| t::r,h=>by rw[zCE];split;{rename_i e;rw[aV v q (fun u hu=>by have:=h.lt u hu;omega) h.tail,lT];simp only[co,e];split <;> grind};{split;{rw[aV v q (fun u hu=>by have:=h.lt u hu;omega) h.tail,lT,lT];simp only[co];grind};{rw[lT,o6 w h.tail];simp only[co];grind}}
def plusAll (l g:List (Int×Rat)):List (Int×Rat):=g.foldl (fun a t=>xF t.1 t.2 false a) l
theorem Cn.plusAll:∀ {g l:List (Int×Rat)},Cn l->Cn (plusAll l g)
 |[],l,h=>h| t::g,l,h=>Cn.plusAll (g:=g) h.plus
theorem iR (w:Int):∀ {g l:List (Int×Rat)},Cn l->co (plusAll l g) w=co l w+co g w
 |[],l,h=>by show co l w=_;simp only[co];grind| t::g,l,h=>by show co (plusAll (xF t.1 t.2 false l) g) w=_;rw[iR w h.plus,o6 w h];simp only[co];grind
theorem zIH {l g:List (Int×Rat)}(hl:Cn l)(hg:Cn g):plusAll l g=mrg 1 l g :=
 Cn.ext hl.plusAll (hl.mrg hg) fun v=>by rw[iR v hl,dQ];grind
theorem zGU (l g:List (Int×Rat))(t:Int×Rat):plusAll l (g++[t])=xF t.1 t.2 false (plusAll l g):=by unfold plusAll;rw[zTS];rfl
theorem Cn.co_mem {l:List (Int×Rat)}(h:Cn l){t}(ht:t∈l):co l t.1=t.2:=by
 induction l with
 |nil=>exact absurd ht (by simp)| cons a r ih =>
  rcases yI.1 ht with rfl|ht;{exact dR h};{have:=h.lt t ht;simp only[co,if_neg (show a.1≠t.1 by omega),ih h.tail ht];grind}
theorem zFL {k:Nat}{l:List (Int×Rat)}(h:Cn l)(hf:∀ t,t∈l->Fits k t.2)(hk:1<=k)(v:Int):Fits k (co l v):=by by_cases hx:∃ t,t∈l/\t.1=v;{obtain⟨t,h1,rfl⟩:=hx;rw[h.co_mem h1];exact hf t h1};{rw[pX fun t ht e=>hx ⟨t,ht,e⟩];exact uK hk}
theorem Cn.take {l:List (Int×Rat)}(h:Cn l)(n:Nat):Cn (l.take n):=⟨h.s.sublist (List.take_sublist n l),fun t ht=>h.n t (mZ ht)⟩
theorem nI (v:Int)(q:Rat):∀ (d:Bool) (l:List (Int×Rat)),(xF v q d l).length<=l.length+(if d=true then 0 else 1)
 |true,[]=>by simp[xF]| false,[]=>by have:=s7 v q [];simpa[xF] using this| d,t::r=>by
  have h1:=nI v q true r;have h2:=nI v q d r;unfold xF;split
  ·have:=s7 t.1 (t.2+q) (xF v q true r);simp only[kI,if_true] at *
   omega
  ·split
   ·rename_i e;have g1:=s7 t.1 t.2 (xF v q true r);have g2:=s7 v q (pc t.1 t.2 (xF v q true r));rw[e.1];simp only[kI,if_true] at *
    rw[if_neg (by decide)];omega
   ·have:=s7 t.1 t.2 (xF v q d r);simp only[kI] at *
    omega
theorem zA4:∀ (g l:List (Int×Rat)),(plusAll l g).length<=l.length+g.length
 |[],l=>by simp[plusAll]| t::g,l=>by
  have h1:=zA4 g (xF t.1 t.2 false l);have h2:=nI t.1 t.2 false l;show (plusAll (xF t.1 t.2 false l) g).length<=_;simp only[kI] at *
  rw[if_neg (by decide)] at h2;omega
theorem zII {k m:Nat}{l g:List (Int×Rat)}(hl:Cn l)(hg:Cn g)(hfl:∀ t,t∈l->Fits k t.2)(hfg:∀ t,t∈g->Fits m t.2)(hk:1<=k)(hm:1<=m):∀ t,t∈plusAll l g->Fits (k+m+1) t.2:=fun t ht=>by rw[<-hl.plusAll.co_mem ht,iR _ hl];exact qT (zFL hl hfl hk _) (zFL hg hfg hm _)
theorem zBR (x:R):zE 165 [rv x] (av ⟨[],x⟩):=by
 refine sF Tryz.f165 ?_;cbv
 (refine rC ?_;cbv)
 exact okA
theorem zFA (v:Int):zE 119 [.int .i64 (fun _=>v)] (fv (F.var v)):=by
 refine sF Tryz.f119 ?_;have c1:=s32 1 (by decide) (by decide);have e:fv (F.var v)=.agg [.sl (fun _=>[wB [.int .i64 (fun _=>v),.bool (fun _=>(zJ ((1:Int):Rat)).neg),nat (zJ ((1:Int):Rat)).num,nat (zJ ((1:Int):Rat)).den]]),.bool (fun _=>R0.neg),nat R0.num,nat R0.den]:=by show av ⟨[(v,zJ 1)],zJ 0⟩=_;rw[u6];rfl
 rw[e];clear e;generalize zJ ((1:Int):Rat)=o at *
 cbv;refine cA c1 ?_;cbv
 (refine rC ?_;cbv)
 exact⟨zR rfl,zM rfl,yW rfl,yW rfl,trivial⟩
theorem zSI (l:List (Int×R)):(tq l).length=l.length:=by simp[tq]
theorem zGX (c:Rat)(b:Int×Rat)(bb):mrg c [] (b::bb)=pc b.1 (b.2*c) (mrg c [] bb):=by rw[mrg]
theorem zD2 (f:A)(c:R)(hf:f.sz (2^31))(hc:c.sz (2^31)):zE 100 [av f,rv c] (fv (f.f.scale c.q)):=by
 refine sF Tryz.f100 ?_;have ccf:=hc.fits (by decide);have hst:=hf.t.sz;have hll:=hf.t.len;have cm:=s77 f.c c hf.c hc;have hmul:∀ b:Int×R,b∈f.ts->zE 84 [rv b.2,rv c] (rv (zJ (b.2.q*c.q))):=fun b hb=>s77 b.2 c (hst b hb) hc;have hmsz:∀ b:Int×R,b∈f.ts->Fits (2^36) (b.2.q*c.q):=fun b hb=>(y6 ((hst b hb).fits (by decide)) ccf).mono (by decide);have e:fv (f.f.scale c.q)=.agg [tsv (tR (mrg c.q [] (tq f.ts))),.bool (fun _=>(zJ (f.c.q*c.q)).neg),nat (zJ (f.c.q*c.q)).num,nat (zJ (f.c.q*c.q)).den]:=by show av ⟨tR (mrg c.q [] (tq f.ts)),zJ (0+f.c.q*c.q)⟩=_;rw[Rat.zero_add]
 rw[e];clear e;generalize hM:mrg c.q [] (tq f.ts)=M;generalize zJ (f.c.q*c.q)=W at *
 generalize hcq:c.q=q at *
 clear hf hc hcq ccf;cbv;refine cA cm ?_;cbv;refine z3 (σ:=List (Int×Rat)×Nat) (fun s=>⟨[(2,.ptr 2 0),(3,.ptr 3 0),(4,.ptr 4 0),(5,.ptr 5 0),(6,.int .i64 (fun _=>(s.2:Int)))],
   [(2,.box [tsv f.ts,.bool (fun _=>f.c.neg),nat f.c.num,nat f.c.den]),(3,.box [.bool (fun _=>c.neg),nat c.num,nat c.den]),(4,.box [.nil,.ff,.nil,.nil]),(5,.box [.osl 200 4 (fun _=>0) (fun _=>s.1.length),.bool (fun _=>W.neg),nat W.num,nat W.den]),(200,.arr 4 (fun _=>enc tc (tR s.1)))]⟩)
  (fun s=>s.2<=f.ts.length/\s.1.length<=s.2/\M=s.1++mrg q [] (tq (f.ts.drop s.2))) (fun s=>f.ts.length-s.2)
  ([],0) ⟨om,by simp,hM.symm⟩
  (.trans (.le (ps':=⟨[(2,.ptr 2 0),(3,.ptr 3 0),(4,.ptr 4 0),(5,.ptr 5 0),(6,.int .i64 (fun _=>((0:Nat):Int)))],[(2,.box [tsv f.ts,.bool (fun _=>f.c.neg),nat f.c.num,nat f.c.den]),(3,.box [.bool (fun _=>c.neg),nat c.num,nat c.den]),(4,.box [.nil,.ff,.nil,.nil]),(5,.box [.nil,.bool (fun _=>W.neg),nat W.num,nat W.den])]⟩) ?_ ?_ rfl)
   (.trans (.adoptB (ps:=⟨[(2,.ptr 2 0),(3,.ptr 3 0),(4,.ptr 4 0),(5,.ptr 5 0),(6,.int .i64 (fun _=>((0:Nat):Int)))],[(2,.box [tsv f.ts,.bool (fun _=>f.c.neg),nat f.c.num,nat f.c.den]),(3,.box [.bool (fun _=>c.neg),nat c.num,nat c.den]),(4,.box [.nil,.ff,.nil,.nil]),(5,.box [.nil,.bool (fun _=>W.neg),nat W.num,nat W.den])]⟩) (cs:=[.nil,.bool (fun _=>W.neg),nat W.num,nat W.den]) 200 4 5 0 rfl rfl rfl) (.le ?_ ?_ rfl))) ?_
 {cbv;exact⟨lR,lR,lR,lR,zC rfl,trivial⟩};{cbv;exact okA};{cbv;exact okA};{cbv;exact⟨okA,okA,okA,⟨yC rfl rfl,lR,lR,lR,trivial⟩,zI rfl,trivial⟩};clear hM;intro s hs;obtain⟨h1,hL,hI⟩:=hs;generalize s.1=out at *
 generalize s.2=i at *
 cbv;refine zG (fun h5=>?_) (fun h5=>?_)
 ·(rw[zA] at h5;have hlt:i<f.ts.length:=by (try dsimp only [zF] at *);omega);obtain⟨t,ht⟩:=zT hlt
  (have hmem:=yA ht;rw[zY ht,bU,zGX] at hI;have hI':M=pcr out t.1 (t.2.q*q)++mrg q [] (tq (f.ts.drop (i+1))):=by rw[hI,fO]);clear hI
  have ca:=hmul t hmem;have cz:=sNz out t.1 (t.2.q*q) (hmsz t hmem) oM;have hpl:=fN out t.1 (t.2.q*q);generalize pcr out t.1 (t.2.q*q)=out' at *
  generalize zJ (t.2.q*q)=X at *
  have idx:∀ {K:List PV->Prop},K (tc t)->IdxOk 4 (fun _=>enc tc f.ts) (fun _=>(i:Int)) K:=fun hK=>xU (l:=f.ts) i rfl hlt wM wI (fun m' hm'=>by rw[ht] at hm';cases hm';exact hK);cbv;refine zN 17 (by cbv) ?_;cbv;refine idx ?_;cbv;refine idx ?_;cbv;refine dA ca ?_;cbv;refine y0 (fun _=>200) (Wk.sel _ [2,3,4,5,6,20,35] [2,3,4,5,200] rfl) rfl okA cz ⟨⟨rfl,rfl⟩,trivial⟩ rfl rfl rfl rfl rfl rfl rfl rfl ?_;cbv;refine⟨zD om om,(out',i+1),⟨om,om,hI'⟩,om,.le ?_ ?_ rfl⟩;{cbv;exact⟨lR,lR,lR,lR,zC om,trivial⟩};{cbv;exact⟨okA,okA,okA,okA,zI rfl,trivial⟩}
 ·(have hi:i=f.ts.length:=by rw[zA] at h5;(try dsimp only [zF] at *);omega);rw[hi,w4] at hI
  (have hM':M=out:=by rw[hI,show tq []=[] from rfl,mrg,uU]);clear hI
  cbv;subst hM';refine tB _ (.trans (.le (ps':=⟨[(4,.ptr 4 0)],[(4,.box [.osl 200 4 (fun _=>0) (fun _=>M.length),.bool (fun _=>W.neg),nat W.num,nat W.den]),(200,.arr 4 (fun _=>enc tc (tR M)))]⟩) ?_ ?_ rfl) (.frz 200 rfl rfl ?_ ?_)) rfl ?_;{cbv;exact okA};{cbv;exact⟨okA,zI rfl,trivial⟩};{exact⟨trivial,trivial⟩};{cbv;exact⟨⟨z8 (by simp[zA,vI]),trivial⟩,trivial⟩};{cbv;exact⟨zR (yS (by simp[zA,vI])),lR,lR,lR,trivial⟩}
theorem zSS (l:List (Int×Rat))(fc:R)(g:A)(hl:Cn l)(hg:Cn (tq g.ts))(hfl:Tfit (2^28) l)(hfc:fc.sz (2^31))(hgs:g.sz (2^28))(hlen:l.length+g.ts.length<2^37):zE 118 [av ⟨tR l,fc⟩,av g] (fv (F.add ⟨l,fc.q⟩ g.f)):=by
 refine sF Tryz.f118 ?_;have ca:=s44 fc g.c hfc (hgs.c.mono (by decide));have hgz:=hgs.t.sz;have e:fv (F.add ⟨l,fc.q⟩ g.f)=.agg [tsv (tR (plusAll l (tq g.ts))),.bool (fun _=>(zJ (fc.q+g.c.q)).neg),nat (zJ (fc.q+g.c.q)).num,nat (zJ (fc.q+g.c.q)).den]:=by show av ⟨tR (mrg 1 l (tq g.ts)),zJ (fc.q+g.c.q*1)⟩=_;rw[Rat.mul_one,zIH hl hg]
 rw[e];clear e;have hfit:∀ i,Tfit (2^30) (plusAll l (tq (g.ts.take i))):=fun i=>by
  (have hg':Cn (tq (g.ts.take i)):=by have:=hg.take i;unfold tq at this ⊢;rw[zHD];exact this);refine⟨?_,fun t ht=>(zII (m:=2^28) hl hg' hfl.fit (fun t ht=>?_) (by decide) (by decide) t ht).mono (by decide)⟩
  {have:=zA4 (tq (g.ts.take i)) l;rw[zSI,j5] at this;omega};{unfold tq at ht;obtain⟨u,hu,rfl⟩:=y8.1 ht;exact ((hgz u (mZ hu)).fits (by decide):Fits (2^28) _)}
 have hlenP:∀ i,(plusAll l (tq (g.ts.take i))).length<2^38:=fun i=>(hfit i).len;have hplus:∀ (i:Nat) (t:Int×R),g.ts[i]?=some t->zE 175 [av ⟨tR (plusAll l (tq (g.ts.take i))),zJ (fc.q+g.c.q)⟩,.int .i64 (fun _=>t.1),rv t.2] (av ⟨tR (plusAll l (tq (g.ts.take (i+1)))),zJ (fc.q+g.c.q)⟩):=fun i t ht=>by
  have:=zWR (plusAll l (tq (g.ts.take i))) (zJ (fc.q+g.c.q)) t.1 t.2 (hfit i) ((hgz t (yA ht)).mono (by decide));have e:xF t.1 t.2.q false (plusAll l (tq (g.ts.take i)))=plusAll l (tq (g.ts.take (i+1))):=by
   (have:tq (g.ts.take (i+1))=tq (g.ts.take i)++[(t.1,t.2.q)]:=by unfold tq;rw[tF,ht,gE];rfl);rw[this,zGU]
  rw[e] at this;exact this
 generalize zJ (fc.q+g.c.q)=W at *
 obtain⟨P,hP⟩:∃ P:Nat->List (Int×Rat),∀ i,P i=plusAll l (tq (g.ts.take i)):=⟨_,fun _=>rfl⟩;have hplus':∀ (i:Nat) (t:Int×R),g.ts[i]?=some t->zE 175 [av ⟨tR (P i),W⟩,.int .i64 (fun _=>t.1),rv t.2] (av ⟨tR (P (i+1)),W⟩):=fun i t ht=>by rw[hP,hP];exact hplus i t ht
 have hP0:P 0=l:=hP 0;have hPe:plusAll l (tq g.ts)=P g.ts.length:=by rw[hP,v9]
 rw[hPe];have hlP:(P g.ts.length).length<2^38:=by rw[hP];exact hlenP _
 have hgl:=hgs.t.len;clear hplus hPe hfit hP hlenP hgs hfc hfl hgz hg hl;cbv;refine jS 9 (by cbv) (by cbv) ?_;cbv;refine dA ca ?_;cbv;refine z3 (σ:=Nat) (fun i=>⟨[(3,.ptr 3 0),(4,.ptr 4 0),(5,.ptr 5 0),(6,.int .i64 (fun _=>(i:Int)))],
   [(3,.box [tsv g.ts,.bool (fun _=>g.c.neg),nat g.c.num,nat g.c.den]),(4,.box [.nil,.ff,.nil,.nil]),(5,.box [tsv (tR (P i)),.bool (fun _=>W.neg),nat W.num,nat W.den])]⟩)
  (fun i=>i<=g.ts.length) (fun i=>g.ts.length-i) 0 oM (.le ?_ ?_ rfl) ?_
 {cbv;exact okA};{cbv;exact⟨okA,okA,⟨zR (by rw[hP0]),lR,lR,lR,trivial⟩,trivial⟩};clear hP0;intro i h1;cbv;refine zG (fun h5=>?_) (fun h5=>?_)
 ·(rw[zA] at h5;have hlt:i<g.ts.length:=by (try dsimp only [zF] at *);omega);obtain⟨t,ht⟩:=zT hlt
  have cp:=hplus' i t ht;have idx:∀ {K:List PV->Prop},K (tc t)->IdxOk 4 (fun _=>enc tc g.ts) (fun _=>(i:Int)) K:=fun hK=>xU (l:=g.ts) i rfl hlt wM wI (fun m' hm'=>by rw[ht] at hm';cases hm';exact hK);generalize P i=p0 at *
  generalize hp1:P (i+1)=p1 at *
  cbv;refine zN 14 (by cbv) ?_;cbv;refine idx ?_;cbv;refine idx ?_;cbv;refine dA cp ?_;cbv;refine⟨zD om om,i+1,om,om,.le ?_ ?_ rfl⟩;{cbv;exact⟨lR,lR,lR,zC om,trivial⟩};{cbv;exact⟨okA,okA,⟨zR (by rw[hp1]),lR,lR,lR,trivial⟩,trivial⟩}
 ·(have hi:i=g.ts.length:=by rw[zA] at h5;(try dsimp only [zF] at *);omega);subst hi
  clear hplus';generalize P g.ts.length=M at *
  cbv;refine zN 7 (by cbv) ?_;cbv;refine⟨w6 wI _,yD (by simp only[zA,vI];(try dsimp only [zF] at *);omega) (by simp only[zA,vI];(try dsimp only [zF] at *);omega),?_⟩;cbv
  (refine rC ?_;cbv)
  exact okA
theorem Cn.scale {l:List (Int×Rat)}(h:Cn l)(c:Rat):Cn (Go.Proofs.YtaeaffgjdcigoaaGreat.mrg c [] l):=Cn.mrg Cn.nil h
theorem zU6 {f g:F}(hf:Cn f.ts)(hg:Cn g.ts):f.sub g=f.add (g.scale (-1)):=by refine F.ext' ?_ ?_;{refine Cn.ext (hf.mrg hg) (hf.mrg (hg.scale (-1))) fun v=>?_;show co (mrg (-1) f.ts g.ts) v=co (mrg 1 f.ts (mrg (-1) [] g.ts)) v;rw[dQ,dQ,dQ];simp only[co];grind};{show f.c+g.c * -1=f.c+(0+g.c * -1)*1;grind}
theorem zMX (l:List (Int×Rat))(fc:R)(g:A)(hl:Cn l)(hg:Cn (tq g.ts))(hfl:Tfit (2^28) l)(hfc:fc.sz (2^31))(hgs:g.sz (2^26))(hlen:l.length+g.ts.length<2^37):zE 164 [av ⟨tR l,fc⟩,av g] (fv (F.sub ⟨l,fc.q⟩ g.f)):=by
 refine sF Tryz.f164 ?_;have c1:=s32 (-1) (by decide) (by decide);have c2:=zD2 g (zJ ((-1:Int):Rat)) (hgs.mono (by decide)) ((oB (-1) (by decide) (by decide)).mono (by decide));rw[z6,show g.f.scale ((-1:Int):Rat)=g.f.scale (-1) from rfl] at c2;have fs:(g.f.scale (-1)).fit (2^28):=(nD (hgs.fit (by decide)) wZ (by decide)).mono (by decide);have ls:=zFX g.f (-1);have lg:g.f.ts.length=g.ts.length:=zSI _;have e1:tq (fA (g.f.scale (-1))).ts=(g.f.scale (-1)).ts:=zL8 _;have c3:=zSS l fc (fA (g.f.scale (-1))) hl (by rw[e1];exact hg.scale (-1)) hfl hfc fs.fA (by show l.length+(tR (g.f.scale (-1)).ts).length<_;rw[vI];omega);rw[kY,<-zU6 (f:=⟨l,fc.q⟩) hl hg] at c3;dsimp only [fv] at c2 c3 ⊢;generalize fA (F.sub ⟨l,fc.q⟩ g.f)=W at *
 generalize fA (g.f.scale (-1))=V at *
 generalize zJ ((-1:Int):Rat)=o at *
 cbv;refine zN 5 (by cbv) ?_;cbv;refine dA c1 ?_;cbv;refine dA c2 ?_;cbv;refine dA c3 ?_;cbv
 (refine rC ?_;cbv)
 exact okA
end Go.Proofs.YtaeaffgjdcigoaaGreat
