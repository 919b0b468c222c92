/- A part of the proof: LnA, LnB, DtA, HfA. -/
import Derived.Test.YtgcpehdkdnkgeaaGreatV23
set_option linter.all false
namespace Go.Proofs.YtgcpehdkdnkgeaaGreat
open Go
set_option maxRecDepth 100000
set_option maxHeartbeats 1000000
theorem zZ {α:Type}{l:List α}{i:Nat}{t:α}(h:l[i]?=some t):l.drop i=t::l.drop (i+1):=by
 obtain⟨h1,h2⟩:=List.getElem?_eq_some_iff.1 h
 rw[←h2,List.drop_eq_getElem_cons h1]
theorem lL (vars p:Int)(t r):vT vars p (t::r)=(decide (0≤t.1) && decide (t.1<vars) && decide (p<t.1) && decide (t.2.q≠0) && t.2.ok && vT vars t.1 r):=rfl
theorem sgnQ_ne {q:Rat}:yB q≠0↔q≠0:=by unfold yB;split <;> (try split) <;> grind
theorem aI (a:A)(vars:Int)(ha:a.sz (2^36)):zE 75 [av a,.int .i64 (fun _=>vars)] (.bool (fun _=>a.valid vars)):=by
 refine sF Tryz.f75 ?_
 obtain⟨ts,c⟩:=a
 have hl:=ha.t.len
 have hts:=ha.t.sz
 have cc:=s103 c ha.c
 generalize hr:A.valid vars ⟨ts,c⟩=r
 have hr0:r=(vT vars (-1) ts && c.ok):=hr.symm
 simp only at hl hts cc
 generalize c.ok=co at *
 clear hr ha
 cbv
 refine zY (σ:=Nat × Int) (fun s=>⟨[(1,.int .i64 (fun _=>vars)),(2,.ptr 2 0),(8,tsv ts),(9,.int .i64 (fun _=>(ts.length:Int))),(10,.int .i64 (fun _=>(s.1:Int)))],[(2,.box [tsv ts,.bool (fun _=>c.neg),nat c.num,nat c.den])]⟩)
  (fun s=>s.1≤ts.length∧r=(vT vars s.2 (ts.drop s.1) && co)∧(s.1=0→s.2=-1)∧(s.1≠0→∃ u,ts[s.1 - 1]?=some u∧u.1=s.2)) (fun s=>ts.length - s.1)
  (0,-1) ⟨om,hr0,fun _=>rfl,fun h=>absurd rfl h⟩ (.le ?_ ?_ rfl) ?_
 ·cbv
  exact⟨lR,lR,lR,zC (by (try dsimp only [zG] at *);rw[zA]),lR,trivial⟩
 ·cbv
  exact okA
 intro s hs
 obtain⟨h1,hv,h3,h4⟩:=hs
 generalize s.1=i at *
 generalize s.2=p at *
 cbv
 refine zH (fun h5=>?_) (fun h5=>?_)
 ·cbv
  refine y5 (l:=ts) i om om x7 x5 (fun t ht=>?_)
  rw[zZ ht,lL] at hv
  have htz:=hts t (List.mem_of_getElem? ht)
  have cs:=s86 t.2 (by have:=htz.n;omega)
  have cv:=s103 t.2 htz
  have hq:decide (t.2.q≠0)=decide (yB t.2.q≠0):=by rw[decide_eq_decide];exact sgnQ_ne.symm
  rw[hq] at hv
  generalize yB t.2.q=sg at *
  generalize hok:t.2.ok=ok at *
  obtain⟨v,x1,x2,x3⟩:=t
  simp only at hv
  generalize hrest:(vT vars v (ts.drop (i+1)) && co)=rest
  have hv':r=(decide (0≤v) && decide (v<vars) && decide (p<v) && decide (sg≠0) && ok && rest):=by rw[hv,←hrest];simp only[Bool.and_assoc]
  clear hv
  cbv
  refine zO 37 (by cbv) ?_
  cbv
  refine zR (fun e1=>?_) (fun e1=>?_)
  ·cbv
   (refine rC ?_;cbv)
   exact zN (by rw[hv',decide_eq_false (by omega)];rfl)
  cbv
  refine zR (fun e2=>?_) (fun e2=>?_)
  ·cbv
   (refine rC ?_;cbv)
   exact zN (by rw[hv',decide_eq_false (p:=v<vars) (by omega)];simp)
  cbv
  have fin:(¬ (p<v)→r=false):=fun h=>by rw[hv',decide_eq_false (p:=p<v) h];simp
  have hmain:(p<v)→r=(decide (sg≠0) && ok && rest):=fun h=>by
   rw[hv',decide_eq_true (p:=p<v) h,decide_eq_true (p:=0≤v) (by omega),decide_eq_true (p:=v<vars) (by omega)];simp only[Bool.true_and]
  clear hv'
  refine zR (fun e3=>?_) (fun e3=>?_)
  ·obtain⟨u,hu,hu2⟩:=h4 om
   cbv
   refine⟨zD om om,y5 (l:=ts) (i - 1) om om x7 x5 (fun u' hu'=>?_)⟩
   have:u'=u:=by rw[hu] at hu';exact (Option.some.inj hu').symm
   subst this
   obtain⟨w,y1,y2,y3⟩:=u'
   simp only at hu2
   cbv
   refine zR (fun e4=>?_) (fun e4=>?_)
   ·cbv
    (refine rC ?_;cbv)
    exact zN (fin (by omega))
   have hm:=hmain (by omega)
   cbv
   refine dA cs ?_
   cbv
   refine zR (fun e5=>?_) (fun e5=>?_)
   ·cbv
    (refine rC ?_;cbv)
    exact zN (by rw[hm,decide_eq_false (by simpa using e5)];rfl)
   rw[decide_eq_true e5,Bool.true_and] at hm
   cbv
   refine dA cv ?_
   cbv
   refine zS (fun e6=>?_) (fun e6=>?_)
   ·rw[e6,Bool.true_and] at hm
    cbv
    exact⟨zD om om,(i+1,v),⟨om,by rw[hm,hrest],fun h=>absurd h (by simp),fun _=>⟨_,ht,rfl⟩⟩,om,.le (by cbv;exact⟨lR,lR,lR,lR,zC om,trivial⟩) (by cbv;exact okA) rfl⟩
   ·cbv
    (refine rC ?_;cbv)
    exact zN (by rw[hm,e6];rfl)
  ·have hp:=h3 om
   have hm:=hmain (by omega)
   cbv
   refine dA cs ?_
   cbv
   refine zR (fun e5=>?_) (fun e5=>?_)
   ·cbv
    (refine rC ?_;cbv)
    exact zN (by rw[hm,decide_eq_false (by simpa using e5)];rfl)
   rw[decide_eq_true e5,Bool.true_and] at hm
   cbv
   refine dA cv ?_
   cbv
   refine zS (fun e6=>?_) (fun e6=>?_)
   ·rw[e6,Bool.true_and] at hm
    cbv
    exact⟨zD om om,(i+1,v),⟨om,by rw[hm,hrest],fun h=>absurd h (by simp),fun _=>⟨_,ht,rfl⟩⟩,om,.le (by cbv;exact⟨lR,lR,lR,lR,zC om,trivial⟩) (by cbv;exact okA) rfl⟩
   ·cbv
    (refine rC ?_;cbv)
    exact zN (by rw[hm,e6];rfl)
 ·have he:i=ts.length:=om
  rw[he,List.drop_length] at hv
  have hv':r=co:=by rw[hv];rfl
  cbv
  refine cA cc ?_
  cbv
  (refine rC ?_;cbv)
  exact zV hv'.symm
theorem nO {rs:List ResultVar}{r:PV}{ps ps':PS}{n:Nat}{o:Obj'}(m:Nat)(hw:Wk ps ps')(h3:lv r=true)(h4:yG ps'.objs m=some o)(h5:wO o=true)
  (h:match dV ps' rs with
  | some l=>les (mV l) (ren (fun _=>m) r)
  | none=>False):RetOk rs r [] [(n,o)] ps:=by
 cases h1:dV ps' rs with
 | none=>rw[h1] at h;exact h.elim
 | some l=>rw[h1] at h;exact⟨ps',l,fun _=>m,hw,h1,cC h,h3,⟨⟨h4,h5⟩,trivial⟩,rfl,trivial⟩
theorem rP {rs:List ResultVar}{r:PV}{ps:PS}(ps':PS)(hw:Wk ps ps')(h3:lv r=true)
  (h:match dV ps' rs with
  | some l=>les (mV l) (ren id r)
  | none=>False):RetOk rs r [] [] ps:=by
 cases h1:dV ps' rs with
 | none=>rw[h1] at h;exact h.elim
 | some l=>rw[h1] at h;exact⟨ps',l,id,hw,h1,cC h,h3,trivial,rfl,trivial⟩
theorem xR {p:Prop}[Decidable p]{A B:Unit→Prop}(h:p)(h1:A ()):Br (fun _=>decide p) A B:=zR (fun _=>h1) (fun g=>(g h).elim)
theorem zW {p:Prop}[Decidable p]{A B:Unit→Prop}(h:¬ p)(h1:B ()):Br (fun _=>decide p) A B:=zR (fun g=>(h g).elim) (fun _=>h1)
theorem xI {p:Prop}[Decidable p]{A B:(Exit→PS→Prop)→Prop}{Q:Exit→PS→Prop}(h:p)(h1:A Q):Cut (fun _=>decide p) A B Q:=zH (fun _=>h1) (fun g=>(g h).elim)
theorem z3 {p:Prop}[Decidable p]{A B:(Exit→PS→Prop)→Prop}{Q:Exit→PS→Prop}(h:¬ p)(h1:B Q):Cut (fun _=>decide p) A B Q:=zH (fun g=>(h g).elim) (fun _=>h1)
def pcr (l:List (Int × Rat)) (v:Int) (q:Rat):List (Int × Rat):=if q=0 then l else l++[(v,q)]
theorem kS (l:List (Int × Rat))(v:Int)(q:Rat)(r):pcr l v q++r=l++pc v q r:=by
 unfold pcr pc
 split <;> simp
abbrev avo (n len:Nat) (c:R):PV:=.agg [.osl n 4 (fun _=>0) (fun _=>len),.bool (fun _=>c.neg),nat c.num,nat c.den]
theorem x8 (l:List (Int × Rat)):(tR l).length=l.length:=by simp [tR]
theorem zKX (l m:List (Int × Rat)):tR (l++m)=tR l++tR m:=by simp [tR]
theorem zGH:ty 36=.sli 4 64 [.int .i64 (fun _=>0),.ff,.nil,.nil]:=by cbv
theorem i4 (l:List (Int × Rat))(c:R)(v:Int)(x:R)(hx:x.sz (2^36))(hl:l.length<2^39) :
  Sound 196 [avo 100 l.length c,.int .i64 (fun _=>v),rv x] [] [(100,.arr 4 (fun _=>enc tc (tR l)))]
   (avo 100 (pcr l v x.q).length c) [] [(100,.arr 4 (fun _=>enc tc (tR (pcr l v x.q))))]:=by
 refine sF Tryz.f196 ?_
 have cs:=s86 x (by have:=hx.n;omega)
 have cc:=s161 x hx
 have h1:yB x.q≠0→pcr l v x.q=l++[(v,x.q)]:=fun h=>if_neg (sgnQ_ne.1 h)
 have h2:¬ yB x.q≠0→pcr l v x.q=l:=fun h=>if_pos (by have:=fun g=>h (sgnQ_ne.2 g);simpa using this)
 generalize pcr l v x.q=P at *
 generalize hsg:yB x.q=sg at *
 generalize hq:x.q=q at *
 have hR:tR [(v,q)]=[(v,zJ q)]:=rfl
 generalize zJ q=W at *
 obtain⟨x1,x2,x3⟩:=x
 obtain⟨w1,w2,w3⟩:=W
 obtain⟨c1,c2,c3⟩:=c
 clear hq hsg
 cbv
 refine cA cs ?_
 cbv
 refine zH (fun h=>?_) (fun h=>?_)
 ·have hP:=h2 (by simpa using h)
  clear h1 h2
  subst hP
  cbv
  exact nO 100 (.refl _) rfl rfl rfl (by cbv;exact okA)
 ·have hP:=h1 (by simpa using h)
  clear h1 h2
  subst hP
  cbv
  refine zO 7 (by cbv) ?_
  cbv
  refine dA cc ?_
  cbv
  refine wD zGH rfl rfl rfl (by simp only[zA,x8]) rfl ⟨by simp [zQ,yW]⟩ (z7 (by simp only[zA,x8,zQ,List.length_cons,List.length_nil];omega) (by simp only[zA,x8,zQ,List.length_cons,List.length_nil];omega)) rfl ?_
  cbv
  refine nO (ps':=⟨[(6,.ptr 6 0)],[(6,.box [.osl 17 4 (fun _=>0) (fun _=>(l++[(v,q)]).length),.bool (fun _=>c1),nat c2,nat c3]),(17,.arr 4 (fun _=>enc tc (tR (l++[(v,q)]))))]⟩) 17 (.le ?_ ?_ rfl) rfl rfl rfl ?_
  ·cbv
   exact okA
  ·cbv
   exact⟨⟨z0 rfl (by simp [zA,x8,zQ]),lR,lR,lR,trivial⟩,zF (by rw[zKX,hR,←yH];rfl),trivial⟩
  ·cbv
   exact okA
theorem kR (l:List (Int × Rat))(v:Int)(q:Rat):(pcr l v q).length≤l.length+1:=by unfold pcr;split <;> simp
theorem qS {α:Type}{p:α→List PV}{n:Nat}{a:α}{l:List α}{K:List PV→Prop}(hf:∀ a,yT v4 (p a)=true)(hn:∀ a,(p a).length=n)(hK:K (p a)):IdxOk n (fun _=>enc p (a::l)) (fun _=>0) K :=
 y5 0 rfl (by simp) hf hn (fun b hb=>by simp at hb;rw[←hb];exact hK)
theorem gM (t:Int × R)(l):tq (t::l)=(t.1,t.2.q)::tq l:=rfl
theorem i5 (f g:A)(c:R)(hf:f.sz (2^33))(hg:g.sz (2^33))(hc:c.sz (2^33)):zE 140 [av f,av g,rv c] (fv (f.f.merge g.f c.q)):=by
 refine sF Tryz.f140 ?_
 obtain⟨ts,fc⟩:=f
 obtain⟨us,gc⟩:=g
 have hlt:=hf.t.len
 have hlu:=hg.t.len
 have hst:=hf.t.sz
 have hsu:=hg.t.sz
 have hfc:=hf.c
 have hgc:=hg.c
 have cfc:=hfc.fits (by decide)
 have cgc:=hgc.fits (by decide)
 have ccf:=hc.fits (by decide)
 simp only at hlt hlu hst hsu hfc hgc cfc cgc
 have cm:=s199 gc c (hgc.mono (by decide)) (hc.mono (by decide))
 have ca:=s138 fc (zJ (gc.q * c.q)) (hfc.mono (by decide)) (z8 ((wB cgc ccf).mono (by decide)))
 rw[z9] at ca
 show wp _ _ (jI _ (.agg [tsv (tR (mrg c.q (tq ts) (tq us))),.bool (fun _=>(zJ (fc.q+gc.q * c.q)).neg),nat (zJ (fc.q+gc.q * c.q)).num,nat (zJ (fc.q+gc.q * c.q)).den]) [] [])
 generalize zJ (fc.q+gc.q * c.q)=W at *
 generalize zJ (gc.q * c.q)=V at *
 generalize hM:mrg c.q (tq ts) (tq us)=M
 have hmul:∀ b:Int × R,b∈us→zE 195 [rv b.2,rv c] (rv (zJ (b.2.q * c.q))):=fun b hb=>s199 b.2 c ((hsu b hb).mono (by decide)) (hc.mono (by decide))
 have hmsz:∀ b:Int × R,b∈us→(zJ (b.2.q * c.q)).sz (2^34):=fun b hb=>z8 ((wB ((hsu b hb).fits (by decide)) ccf).mono (by decide))
 have hadd:∀ (a b:Int × R),a∈ts→b∈us→zE 121 [rv a.2,rv (zJ (b.2.q * c.q))] (rv (zJ (a.2.q+b.2.q * c.q))):=fun a b ha hb=>by
  have:=s138 a.2 (zJ (b.2.q * c.q)) ((hst a ha).mono (by decide)) ((hmsz b hb).mono (by decide))
  rw[z9] at this
  exact this
 have hasz:∀ (a b:Int × R),a∈ts→b∈us→(zJ (a.2.q+b.2.q * c.q)).sz (2^36):=fun a b ha hb=>z8 ((vI ((hst a ha).fits (by decide)) (wB ((hsu b hb).fits (by decide)) ccf)).mono (by decide))
 clear hf hg cfc cgc hfc hgc
 generalize hcq:c.q=cq at *
 obtain⟨w1,w2,w3⟩:=W
 obtain⟨fc1,fc2,fc3⟩:=fc
 obtain⟨gc1,gc2,gc3⟩:=gc
 obtain⟨c1,c2,c3⟩:=c
 cbv
 refine u7 9 (by cbv) (by cbv) ?_
 cbv
 refine dA cm ?_
 cbv
 refine dA ca ?_
 cbv
 refine zO 5 (by cbv) ?_
 cbv
 refine zY (σ:=List (Int × Rat) × List (Int × R) × List (Int × R)) (fun s=>⟨[(5,.ptr 5 0),(6,.ptr 6 0),(7,.ptr 7 0),(8,tsv s.2.1),(9,tsv s.2.2)],[(5,.box [.bool (fun _=>c1),nat c2,nat c3]),(6,.box [.nil,.ff,.nil,.nil]),(7,.box [.osl 200 4 (fun _=>0) (fun _=>s.1.length),.bool (fun _=>w1),nat w2,nat w3]),(200,.arr 4 (fun _=>enc tc (tR s.1)))]⟩)
  (fun s=>M=s.1++mrg cq (tq s.2.1) (tq s.2.2)∧s.1.length+(s.2.1.length+s.2.2.length)≤ts.length+us.length∧(∀ t,t∈s.2.1→t∈ts)∧(∀ t,t∈s.2.2→t∈us)) (fun s=>s.2.1.length+s.2.2.length)
  ([],ts,us) ⟨hM.symm,by simp,fun _ h=>h,fun _ h=>h⟩
  (.trans (.le (ps':=⟨[(5,.ptr 5 0),(6,.ptr 6 0),(7,.ptr 7 0),(8,tsv ts),(9,tsv us)],[(5,.box [.bool (fun _=>c1),nat c2,nat c3]),(6,.box [.nil,.ff,.nil,.nil]),(7,.box [.nil,.bool (fun _=>w1),nat w2,nat w3])]⟩) ?_ ?_ rfl) (.trans (.adoptB (ps:=⟨[(5,.ptr 5 0),(6,.ptr 6 0),(7,.ptr 7 0),(8,tsv ts),(9,tsv us)],[(5,.box [.bool (fun _=>c1),nat c2,nat c3]),(6,.box [.nil,.ff,.nil,.nil]),(7,.box [.nil,.bool (fun _=>w1),nat w2,nat w3])]⟩) (cs:=[.nil,.bool (fun _=>w1),nat w2,nat w3]) 200 4 7 0 rfl rfl rfl) (.le ?_ ?_ rfl))) ?_
 ·cbv
  exact okA
 ·cbv
  exact okA
 ·cbv
  exact okA
 ·cbv
  exact⟨okA,okA,⟨z0 rfl rfl,lR,lR,lR,trivial⟩,zF rfl,trivial⟩
 intro s hs
 obtain⟨hI,hL,hA,hB⟩:=hs
 generalize s.1=out at *
 generalize s.2.1=aa at *
 generalize s.2.2=bb at *
 cases aa with
 | nil =>
  cases bb with
  | nil =>
   cbv
   refine zW (by simp [zA]) ?_
   cbv
   refine z3 (by simp [zA]) ?_
   cbv
   have hM':M=out:=by rw[hI,show tq []=[] from rfl,mrg,List.append_nil]
   subst hM'
   refine rP _ (.trans (.le (ps':=⟨[(6,.ptr 6 0)],[(6,.box [.osl 200 4 (fun _=>0) (fun _=>M.length),.bool (fun _=>w1),nat w2,nat w3]),(200,.arr 4 (fun _=>enc tc (tR M)))]⟩) ?_ ?_ rfl) (.frz 200 rfl rfl ?_ ?_)) rfl ?_
   ·cbv;exact okA
   ·cbv;exact⟨okA,zF rfl,trivial⟩
   ·exact⟨trivial,trivial⟩
   ·cbv;exact⟨⟨zX (by simp [zA,x8]),trivial⟩,trivial⟩
   ·cbv;exact⟨zP (List.take_of_length_le (by simp [zA,x8])),lR,lR,lR,trivial⟩
  | cons b bs =>
   have hb:=hB b List.mem_cons_self
   have cmb:=hmul b hb
   have cpb:=i4 out ⟨w1,w2,w3⟩ b.1 (zJ (b.2.q * cq)) ((hmsz b hb).mono (by decide)) (by omega)
   rw[z9] at cpb
   have hI':M=pcr out b.1 (b.2.q * cq)++mrg cq (tq []) (tq bs):=by rw[hI,gM,show tq []=[] from rfl,mrg,kS]
   have hpl:=kR out b.1 (b.2.q * cq)
   generalize pcr out b.1 (b.2.q * cq)=out' at *
   generalize zJ (b.2.q * cq)=X at *
   cbv
   refine zW (by simp [zA]) ?_
   cbv
   refine xI (by simp [zA] <;> omega) ?_
   cbv
   refine zO 20 (by cbv) ?_
   cbv
   refine zW (by simp [zA] <;> omega) ?_
   cbv
   refine zW (by simp [zA]) ?_
   cbv
   refine zO 15 (by cbv) ?_
   cbv
   refine xR (by simp [zA]) ?_
   cbv
   refine zO 11 (by cbv) ?_
   cbv
   refine qS x7 x5 ?_
   cbv
   refine qS x7 x5 ?_
   cbv
   refine dA cmb ?_
   cbv
   refine y8 (fun _=>200) (.refl _) rfl okA cpb ⟨⟨rfl,rfl⟩,trivial⟩ rfl rfl rfl rfl rfl rfl rfl rfl ?_
   cbv
   refine⟨w4 (by decide) (by simp [zA] <;> omega) (by simp [zA]),xN x5 _,?_⟩
   cbv
   refine⟨(out',[],bs),⟨hI',by simp at hL hpl ⊢;omega,hA,fun t ht=>hB t (List.mem_cons_of_mem _ ht)⟩,by simp,.le ?_ ?_ rfl⟩
   ·cbv;exact⟨lR,lR,lR,lR,zP (by simp [enc,List.take_of_length_le]),trivial⟩
   ·cbv;exact⟨okA,okA,okA,zF rfl,trivial⟩
 | cons a aa =>
  have ha:=hA a List.mem_cons_self
  cases bb with
  | nil =>
   have cp:=i4 out ⟨w1,w2,w3⟩ a.1 a.2 ((hst a ha).mono (by decide)) (by omega)
   have hI':M=pcr out a.1 a.2.q++mrg cq (tq aa) (tq []):=by rw[hI,gM,show tq []=[] from rfl,mrg,kS]
   have hpl:=kR out a.1 a.2.q
   generalize pcr out a.1 a.2.q=out' at *
   cbv
   refine xR (by simp [zA] <;> omega) ?_
   cbv
   refine zO 20 (by cbv) ?_
   cbv
   refine xR (by simp [zA]) ?_
   cbv
   refine zO 9 (by cbv) ?_
   cbv
   refine qS x7 x5 ?_
   cbv
   refine qS x7 x5 ?_
   cbv
   refine y8 (fun _=>200) (.refl _) rfl okA cp ⟨⟨rfl,rfl⟩,trivial⟩ rfl rfl rfl rfl rfl rfl rfl rfl ?_
   cbv
   refine⟨w4 (by decide) (by simp [zA] <;> omega) (by simp [zA]),xN x5 _,?_⟩
   cbv
   refine⟨(out',aa,[]),⟨hI',by simp at hL hpl ⊢;omega,fun t ht=>hA t (List.mem_cons_of_mem _ ht),hB⟩,by simp,.le ?_ ?_ rfl⟩
   ·cbv;exact⟨lR,lR,lR,zP (by simp [enc,List.take_of_length_le]),lR,trivial⟩
   ·cbv;exact⟨okA,okA,okA,zF rfl,trivial⟩
  | cons b bb =>
   have hb:=hB b List.mem_cons_self
   cbv
   refine xR (by simp [zA] <;> omega) ?_
   cbv
   refine zO 20 (by cbv) ?_
   cbv
   refine zW (by simp [zA] <;> omega) ?_
   cbv
   refine xR (by simp [zA] <;> omega) ?_
   cbv
   refine qS x7 x5 ?_
   cbv
   refine qS x7 x5 ?_
   cbv
   refine zH (fun hlt=>?_) (fun hlt=>?_)
   ·have cp:=i4 out ⟨w1,w2,w3⟩ a.1 a.2 ((hst a ha).mono (by decide)) (by omega)
    have hI':M=pcr out a.1 a.2.q++mrg cq (tq aa) (tq (b::bb)):=by rw[hI,gM,gM,mrg,if_pos (show (a.1,a.2.q).1<(b.1,b.2.q).1 from hlt),kS]
    have hpl:=kR out a.1 a.2.q
    generalize pcr out a.1 a.2.q=out' at *
    cbv
    refine zO 9 (by cbv) ?_
    cbv
    refine qS x7 x5 ?_
    cbv
    refine qS x7 x5 ?_
    cbv
    refine y8 (fun _=>200) (.refl _) rfl okA cp ⟨⟨rfl,rfl⟩,trivial⟩ rfl rfl rfl rfl rfl rfl rfl rfl ?_
    cbv
    refine⟨w4 (by decide) (by simp [zA] <;> omega) (by simp [zA]),xN x5 _,?_⟩
    cbv
    refine⟨(out',aa,b::bb),⟨hI',by simp at hL hpl ⊢;omega,fun t ht=>hA t (List.mem_cons_of_mem _ ht),hB⟩,by simp,.le ?_ ?_ rfl⟩
    ·cbv;exact⟨lR,lR,lR,zP (by simp [enc,List.take_of_length_le]),lR,trivial⟩
    ·cbv;exact⟨okA,okA,okA,zF rfl,trivial⟩
   ·cbv
    refine zO 15 (by cbv) ?_
    cbv
    refine zW (by simp [zA] <;> omega) ?_
    cbv
    refine qS x7 x5 ?_
    cbv
    refine qS x7 x5 ?_
    cbv
    refine zH (fun hlt2=>?_) (fun hlt2=>?_)
    ·have cmb:=hmul b hb
     have cp:=i4 out ⟨w1,w2,w3⟩ b.1 (zJ (b.2.q * cq)) ((hmsz b hb).mono (by decide)) (by omega)
     rw[z9] at cp
     have hI':M=pcr out b.1 (b.2.q * cq)++mrg cq (tq (a::aa)) (tq bb):=by rw[hI,gM,gM,mrg,if_neg (show ¬ (a.1,a.2.q).1<(b.1,b.2.q).1 from hlt),if_pos (show (b.1,b.2.q).1<(a.1,a.2.q).1 from hlt2),kS]
     have hpl:=kR out b.1 (b.2.q * cq)
     generalize pcr out b.1 (b.2.q * cq)=out' at *
     generalize zJ (b.2.q * cq)=X at *
     cbv
     refine zO 11 (by cbv) ?_
     cbv
     refine qS x7 x5 ?_
     cbv
     refine qS x7 x5 ?_
     cbv
     refine dA cmb ?_
     cbv
     refine y8 (fun _=>200) (.refl _) rfl okA cp ⟨⟨rfl,rfl⟩,trivial⟩ rfl rfl rfl rfl rfl rfl rfl rfl ?_
     cbv
     refine⟨w4 (by decide) (by simp [zA] <;> omega) (by simp [zA]),xN x5 _,?_⟩
     cbv
     refine⟨(out',a::aa,bb),⟨hI',by simp at hL hpl ⊢;omega,hA,fun t ht=>hB t (List.mem_cons_of_mem _ ht)⟩,by simp,.le ?_ ?_ rfl⟩
     ·cbv;exact⟨lR,lR,lR,lR,zP (by simp [enc,List.take_of_length_le]),trivial⟩
     ·cbv;exact⟨okA,okA,okA,zF rfl,trivial⟩
    ·have cmb:=hmul b hb
     have cab:=hadd a b ha hb
     have cp:=i4 out ⟨w1,w2,w3⟩ a.1 (zJ (a.2.q+b.2.q * cq)) ((hasz a b ha hb).mono (by decide)) (by omega)
     rw[z9] at cp
     have hI':M=pcr out a.1 (a.2.q+b.2.q * cq)++mrg cq (tq aa) (tq bb):=by rw[hI,gM,gM,mrg,if_neg (show ¬ (a.1,a.2.q).1<(b.1,b.2.q).1 from hlt),if_neg (show ¬ (b.1,b.2.q).1<(a.1,a.2.q).1 from hlt2),kS]
     have hpl:=kR out a.1 (a.2.q+b.2.q * cq)
     generalize pcr out a.1 (a.2.q+b.2.q * cq)=out' at *
     generalize zJ (a.2.q+b.2.q * cq)=Y at *
     generalize zJ (b.2.q * cq)=X at *
     cbv
     refine zO 16 (by cbv) ?_
     cbv
     refine qS x7 x5 ?_
     cbv
     refine qS x7 x5 ?_
     cbv
     refine qS x7 x5 ?_
     cbv
     refine dA cmb ?_
     cbv
     refine dA cab ?_
     cbv
     refine y8 (fun _=>200) (.refl _) rfl okA cp ⟨⟨rfl,rfl⟩,trivial⟩ rfl rfl rfl rfl rfl rfl rfl rfl ?_
     cbv
     refine zO 5 (by cbv) ?_
     cbv
     refine⟨w4 (by decide) (by simp [zA] <;> omega) (by simp [zA]),xN x5 _,?_⟩
     cbv
     refine⟨w4 (by decide) (by simp [zA] <;> omega) (by simp [zA]),xN x5 _,?_⟩
     cbv
     refine⟨(out',aa,bb),⟨hI',by simp at hL hpl ⊢;omega,fun t ht=>hA t (List.mem_cons_of_mem _ ht),fun t ht=>hB t (List.mem_cons_of_mem _ ht)⟩,by simp <;> omega,.le ?_ ?_ rfl⟩
     ·cbv;exact⟨lR,lR,lR,zP (by simp [enc,List.take_of_length_le]),zP (by simp [enc,List.take_of_length_le]),trivial⟩
     ·cbv;exact⟨okA,okA,okA,zF rfl,trivial⟩
theorem bN (z:Int)(h1:-1000≤z)(h2:z≤1000):(zJ (z:Rat)).sz 1:=z8 (zD9 (by show z.natAbs<4294967296 ^ 1;omega) (by decide))
theorem zFX (f g:A)(hf:f.sz (2^33))(hg:g.sz (2^33)):zE 107 [av f,av g] (fv (f.f.add g.f)):=by
 refine sF Tryz.f107 ?_
 have c1:=s104 1 (by decide) (by decide)
 have cm:=i5 f g (zJ ((1:Int):Rat)) hf hg ((bN 1 (by decide) (by decide)).mono (by decide))
 rw[z9] at cm
 have e:f.f.merge g.f ((1:Int):Rat)=f.f.add g.f:=rfl
 rw[e] at cm
 generalize fA (f.f.add g.f)=W at *
 generalize zJ ((1:Int):Rat)=o at *
 obtain⟨ft,f1,f2,f3⟩:=f
 obtain⟨gt,g1,g2,g3⟩:=g
 obtain⟨wt,w1,w2,w3⟩:=W
 cbv
 refine zO 4 (by cbv) ?_
 cbv
 refine dA c1 ?_
 cbv
 refine dA cm ?_
 cbv
 (refine rC ?_;cbv)
 exact okA
theorem fG (f g:A)(hf:f.sz (2^33))(hg:g.sz (2^33)):zE 76 [av f,av g] (fv (f.f.sub g.f)):=by
 refine sF Tryz.f76 ?_
 have c1:=s104 (-1) (by decide) (by decide)
 have cm:=i5 f g (zJ ((-1:Int):Rat)) hf hg ((bN (-1) (by decide) (by decide)).mono (by decide))
 rw[z9] at cm
 have e:f.f.merge g.f ((-1:Int):Rat)=f.f.sub g.f:=rfl
 rw[e] at cm
 generalize fA (f.f.sub g.f)=W at *
 generalize zJ ((-1:Int):Rat)=o at *
 obtain⟨ft,f1,f2,f3⟩:=f
 obtain⟨gt,g1,g2,g3⟩:=g
 obtain⟨wt,w1,w2,w3⟩:=W
 cbv
 refine zO 4 (by cbv) ?_
 cbv
 refine dA c1 ?_
 cbv
 refine dA cm ?_
 cbv
 (refine rC ?_;cbv)
 exact okA
theorem aJ (f:A)(c:R)(hf:f.sz (2^33))(hc:c.sz (2^33)):zE 108 [av f,rv c] (fv (f.f.scale c.q)):=by
 refine sF Tryz.f108 ?_
 have cm:=i5 ⟨[],⟨false,[],[]⟩⟩ f c ⟨⟨by decide,fun _ h=>absurd h (by simp)⟩,⟨by decide,by decide⟩⟩ hf hc
 have e:(A.f ⟨[],⟨false,[],[]⟩⟩).merge f.f c.q=f.f.scale c.q:=rfl
 rw[e] at cm
 generalize fA (f.f.scale c.q)=W at *
 obtain⟨ft,f1,f2,f3⟩:=f
 obtain⟨c1,c2,c3⟩:=c
 obtain⟨wt,w1,w2,w3⟩:=W
 cbv
 refine yX rfl okA cm rfl ?_
 cbv
 (refine rC ?_;cbv)
 exact okA
structure Row where
 k:Int
 i:Int
 lo:Int
 hi:Int
deriving DecidableEq
structure Mult where
 row:Row
 c:R
deriving DecidableEq
structure Dec where
 k:Int
 i:Int
 x:R
structure Lem where
 u:Int
 up:Bool
 v:R
 pf:List Mult
structure Grp where
 n:Int
 us:List A
 os:List A
structure Reg where
 lo:List R
 hi:List R
 rows:List A
structure Qry where
 g:Grp
 r:Reg
 goal:A
structure Scp where
 q:Qry
 path:List Dec
 lems:List Lem
abbrev rlv (l:List R):PV:=.sl (fun _=>enc rc l)
abbrev alv (l:List A):PV:=.sl (fun _=>enc ac l)
abbrev rwc (r:Row):List PV:=[.int .i64 (fun _=>r.k),.int .i64 (fun _=>r.i),.int .i64 (fun _=>r.lo),.int .i64 (fun _=>r.hi)]
abbrev rwv (r:Row):PV:=.agg [.int .i64 (fun _=>r.k),.int .i64 (fun _=>r.i),.int .i64 (fun _=>r.lo),.int .i64 (fun _=>r.hi)]
def mc (m:Mult):List PV:=[.int .i64 (fun _=>m.row.k),.int .i64 (fun _=>m.row.i),.int .i64 (fun _=>m.row.lo),.int .i64 (fun _=>m.row.hi),.bool (fun _=>m.c.neg),nat m.c.num,nat m.c.den]
abbrev mlv (l:List Mult):PV:=.sl (fun _=>enc mc l)
def dc (d:Dec):List PV:=[.int .i64 (fun _=>d.k),.int .i64 (fun _=>d.i),.bool (fun _=>d.x.neg),nat d.x.num,nat d.x.den]
abbrev dv (d:Dec):PV:=.agg [.int .i64 (fun _=>d.k),.int .i64 (fun _=>d.i),.bool (fun _=>d.x.neg),nat d.x.num,nat d.x.den]
abbrev dlv (l:List Dec):PV:=.sl (fun _=>enc dc l)
def lc (l:Lem):List PV:=[.int .i64 (fun _=>l.u),.bool (fun _=>l.up),.bool (fun _=>l.v.neg),nat l.v.num,nat l.v.den,mlv l.pf]
abbrev lv' (l:Lem):PV:=.agg [.int .i64 (fun _=>l.u),.bool (fun _=>l.up),.bool (fun _=>l.v.neg),nat l.v.num,nat l.v.den,mlv l.pf]
abbrev llv (l:List Lem):PV:=.sl (fun _=>enc lc l)
abbrev gv (g:Grp):PV:=.agg [.int .i64 (fun _=>g.n),alv g.us,alv g.os]
abbrev rgv (r:Reg):PV:=.agg [rlv r.lo,rlv r.hi,alv r.rows]
abbrev qv (q:Qry):PV:=.agg [.int .i64 (fun _=>q.g.n),alv q.g.us,alv q.g.os,rlv q.r.lo,rlv q.r.hi,alv q.r.rows,tsv q.goal.ts,.bool (fun _=>q.goal.c.neg),nat q.goal.c.num,nat q.goal.c.den]
abbrev sv (s:Scp):PV:=.agg [.int .i64 (fun _=>s.q.g.n),alv s.q.g.us,alv s.q.g.os,rlv s.q.r.lo,rlv s.q.r.hi,alv s.q.r.rows,tsv s.q.goal.ts,.bool (fun _=>s.q.goal.c.neg),nat s.q.goal.c.num,nat s.q.goal.c.den,dlv s.path,llv s.lems]
def sc (s:Scp):List PV:=[.int .i64 (fun _=>s.q.g.n),alv s.q.g.us,alv s.q.g.os,rlv s.q.r.lo,rlv s.q.r.hi,alv s.q.r.rows,tsv s.q.goal.ts,.bool (fun _=>s.q.goal.c.neg),nat s.q.goal.c.num,nat s.q.goal.c.den,dlv s.path,llv s.lems]
theorem yS (a:Mult):yT v4 (mc a)=true:=rfl
theorem yO (a:Mult):(mc a).length=7:=rfl
theorem dO (a:Dec):yT v4 (dc a)=true:=rfl
theorem cH (a:Dec):(dc a).length=5:=rfl
theorem wT (a:Lem):yT v4 (lc a)=true:=rfl
theorem wQ (a:Lem):(lc a).length=6:=rfl
structure Asz (k:Nat) (l:List A):Prop where
 len:l.length<2^38
 sz:∀ a,a∈l→a.sz k
structure Rsz (k:Nat) (l:List R):Prop where
 len:l.length<2^38
 sz:∀ a,a∈l→a.sz k
structure Msz (k:Nat) (l:List Mult):Prop where
 len:l.length<2^38
 sz:∀ a,a∈l→a.c.sz k
structure Dsz (k:Nat) (l:List Dec):Prop where
 len:l.length<2^38
 sz:∀ a,a∈l→a.x.sz k
structure Lsz (k:Nat) (l:List Lem):Prop where
 len:l.length<2^38
 sz:∀ a,a∈l→a.v.sz k
 pf:∀ a,a∈l→Msz k a.pf
structure Grp.sz (g:Grp) (k:Nat):Prop where
 us:Asz k g.us
 os:Asz k g.os
structure Reg.sz (r:Reg) (k:Nat):Prop where
 lo:Rsz k r.lo
 hi:Rsz k r.hi
 rows:Asz k r.rows
structure Qry.sz (q:Qry) (k:Nat):Prop where
 g:q.g.sz k
 r:q.r.sz k
 goal:q.goal.sz k
structure Scp.sz (s:Scp) (k:Nat):Prop where
 q:s.q.sz k
 path:Dsz k s.path
 lems:Lsz k s.lems
theorem Asz.mono {k m:Nat}{l}(h:Asz k l)(hm:k≤m):Asz m l:=⟨h.len,fun a ha=>(h.sz a ha).mono hm⟩
theorem Rsz.mono {k m:Nat}{l}(h:Rsz k l)(hm:k≤m):Rsz m l:=⟨h.len,fun a ha=>(h.sz a ha).mono hm⟩
theorem Msz.mono {k m:Nat}{l}(h:Msz k l)(hm:k≤m):Msz m l:=⟨h.len,fun a ha=>(h.sz a ha).mono hm⟩
theorem Dsz.mono {k m:Nat}{l}(h:Dsz k l)(hm:k≤m):Dsz m l:=⟨h.len,fun a ha=>(h.sz a ha).mono hm⟩
theorem Lsz.mono {k m:Nat}{l}(h:Lsz k l)(hm:k≤m):Lsz m l:=⟨h.len,fun a ha=>(h.sz a ha).mono hm,fun a ha=>(h.pf a ha).mono hm⟩
theorem Grp.sz.mono {k m:Nat}{g:Grp}(h:g.sz k)(hm:k≤m):g.sz m:=⟨h.us.mono hm,h.os.mono hm⟩
theorem Reg.sz.mono {k m:Nat}{g:Reg}(h:g.sz k)(hm:k≤m):g.sz m:=⟨h.lo.mono hm,h.hi.mono hm,h.rows.mono hm⟩
theorem Qry.sz.mono {k m:Nat}{g:Qry}(h:g.sz k)(hm:k≤m):g.sz m:=⟨h.g.mono hm,h.r.mono hm,h.goal.mono hm⟩
theorem Scp.sz.mono {k m:Nat}{g:Scp}(h:g.sz k)(hm:k≤m):g.sz m:=⟨h.q.mono hm,h.path.mono hm,h.lems.mono hm⟩
def vU:Int→List A→Bool
 | _,[]=>true
 | k,f::r=>f.valid k && vU (k+1) r
def Grp.vars (g:Grp):Int:=g.n+g.us.length
def Grp.valid (g:Grp):Bool:=decide (1≤g.n∧g.n≤256∧g.us.length≤1024∧1≤g.os.length∧g.os.length≤256) && vU g.n g.us && g.os.all (A.valid g.vars)
def vB:List R→List R→Bool
 | l::ls,h::hs=>l.ok && h.ok && decide (kL l.q h.q≤0) && vB ls hs
 | _,_=>true
def Reg.valid (n:Int) (r:Reg):Bool:=decide (1≤n∧n≤256∧(r.lo.length:Int)=n∧(r.hi.length:Int)=n∧r.rows.length≤256) && vB r.lo r.hi && r.rows.all (A.valid n)
def Qry.valid (q:Qry):Bool:=q.g.valid && q.r.valid q.g.n && q.goal.valid q.g.vars
def Dec.fits (q:Qry) (d:Dec):Bool :=
 if d.k=1∨d.k=2 then decide (0≤d.i∧d.i<q.g.us.length) && decide (d.x=⟨false,[],[]⟩)
 else if d.k=3∨d.k=4 then decide (0≤d.i∧d.i<q.g.n) && d.x.ok
 else false
def vO {α:Type} (P:α→Bool):List α→Int
 | []=>-1
 | a::r=>if P a then 0 else if vO P r<0 then -1 else vO P r+1
theorem bU {α:Type}(P:α→Bool):∀ l:List α,-1≤vO P l
 | []=>by simp [vO]
 | a::r=>by have:=bU P r;simp only[vO];split <;> (try split) <;> omega
theorem zD5 {α:Type}(P:α→Bool):∀ l:List α,0≤vO P l↔l.any P=true
 | []=>by simp [vO]
 | a::r=>by
  have ih:=zD5 P r
  rw[List.any_cons,Bool.or_eq_true,←ih]
  rw[show vO P (a::r)=if P a then 0 else if vO P r<0 then -1 else vO P r+1 from rfl]
  by_cases h:P a=true
  ·simp [h]
  ·rw[if_neg h]
   have:(P a=true∨0≤vO P r)↔0≤vO P r:=⟨fun g=>g.resolve_left h,.inr⟩
   rw[this]
   split <;> omega
theorem oB {α:Type}(P:α→Bool)(l:List α):decide (0≤vO P l)=l.any P:=by
 rw[Bool.eq_iff_iff,decide_eq_true_eq,zD5]
theorem les_refl:∀ a:PV,les a a
 | .agg cs=>allLe_refl1 cs
 | .tup cs=>allLe_refl1 cs
 | .fn f cs=>⟨nqb_self f,allLe_refl1 cs⟩
 | .int k n=>lR
 | .tt=>lR
 | .ff=>lR
 | .bool b=>lR
 | .nbool b=>lR
 | .str s=>lR
 | .nil=>lR
 | .sl els=>lR
 | .ptr n o=>lR
 | .aptr n s i o=>lR
 | .dptr cs o=>lR
 | .osl n s o l=>lR
 | .nilf=>lR
 | .any=>lR
where
 les1_refl:∀ a:PV,les1 a a
  | .agg cs=>allLeS_refl cs
  | .tup cs=>allLeS_refl cs
  | .fn f cs=>lR
  | .int k n=>lR
  | .tt=>lR
  | .ff=>lR
  | .bool b=>lR
  | .nbool b=>lR
  | .str s=>lR
  | .nil=>lR
  | .sl els=>lR
  | .ptr n o=>lR
  | .aptr n s i o=>lR
  | .dptr cs o=>lR
  | .osl n s o l=>lR
  | .nilf=>lR
  | .any=>lR
 allLeS_refl:∀ l:List PV,qJ LeS l l
  | []=>trivial
  | a::r=>⟨aV a,allLeS_refl r⟩
 allLe_refl1:∀ l:List PV,qJ les1 l l
  | []=>trivial
  | a::r=>⟨les1_refl a,allLe_refl1 r⟩
theorem cX:∀ l:List PV,qJ les l l
 | []=>trivial
 | a::r=>⟨les_refl a,cX r⟩
theorem uC (l:List PV):qJ les1 l l:=les_refl.allLe_refl1 l
def selT (T:List (Nat × PV)):List Nat→List (Nat × PV)
 | []=>[]
 | t::r=>(t,zB T t)::selT T r
def mL (O:List (Nat × Obj')):List Nat→List (Nat × Obj')
 | []=>[]
 | n::r=>(match yG O n with
  | some o=>(n,o)::mL O r
  | none=>mL O r)
def ndN:List Nat→Bool
 | []=>true
 | n::r=>!(z5 n r) && ndN r
theorem zE9:∀ o:Obj',zFS o o
 | .box cs=>cX cs
 | .arr s e=>⟨nqb_self s,⟨rfl⟩⟩
 | .log s e=>⟨nqb_self s,⟨rfl⟩⟩
 | .lent s e=>⟨nqb_self s,⟨rfl⟩⟩
theorem zG7 (T:List (Nat × PV)):∀ L,leT T (selT T L)
 | []=>trivial
 | t::r=>⟨les_refl _,zG7 T r⟩
theorem zBZ (O:List (Nat × Obj')):∀ M,leO O (mL O M)
 | []=>trivial
 | n::r=>by
  unfold mL
  cases h:yG O n with
  | none=>exact zBZ O r
  | some o =>
   refine⟨?_,zBZ O r⟩
   rw[h]
   exact zE9 o
theorem oC (O:List (Nat × Obj'))(m:Nat):∀ M,z5 m M=false→hasN m (mL O M)=false
 | [],_=>rfl
 | n::r,h=>by
  simp only[z5,Bool.or_eq_false_iff] at h
  unfold mL
  cases yG O n with
  | none=>exact oC O m r h.2
  | some o =>
   simp only[hasN,Bool.or_eq_false_iff]
   refine⟨?_,oC O m r h.2⟩
   have:=h.1
   cases hx:nqb n m with
   | false=>rfl
   | true=>rw[yN hx,nqb_self] at this;cases this
theorem zBX (O:List (Nat × Obj')):∀ M,ndN M=true→ndO (mL O M)=true
 | [],_=>rfl
 | n::r,h=>by
  simp only[ndN,Bool.and_eq_true,Bool.not_eq_true'] at h
  unfold mL
  cases yG O n with
  | none=>exact zBX O r h.2
  | some o =>
   simp only[ndO,Bool.and_eq_true,Bool.not_eq_true']
   exact⟨oC O n r h.1,zBX O r h.2⟩
theorem Wk.sel (ps:PS)(L M:List Nat)(h:ndN M=true):Wk ps ⟨selT ps.tmps L,mL ps.objs M⟩:=.le (zG7 _ _) (zBZ _ _) (zBX _ _ h)
theorem kZ {g as_ dst ps K f caps args' r}(L M:List Nat)(hM:ndN M=true)(h1:ev (zB (selT ps.tmps L)) g=.fn f caps)(h2:qJ les (evs (ev (zB (selT ps.tmps L))) as_++caps) args')(h3:zE f args' r)(h5:nmIn [] r=true)
  (h4:K (put ⟨selT ps.tmps L,mL ps.objs M⟩ dst r)):CallOk g as_ dst ps K:=uT (Wk.sel ps L M hM) h1 h2 h3 h5 h4
theorem a9 {ops:List Oper}{ps:PS}{K:PS→Prop}(k:Nat)(L M:List Nat)(hM:ndN M=true)(hd:uS ops k=true)(h:dT ops (ops.take k) ⟨selT ps.tmps L,mL ps.objs M⟩ (fun ps''=>vF ops (ops.drop k) ps'' K)):DrawK ops ps K :=
 ⟨.inl ⟨k,_,Wk.sel ps L M hM,hd,h⟩⟩
theorem oK {ops:List Oper}{ps:PS}{K:PS→Prop}(k:Nat)(L M:List Nat)(hM:ndN M=true)(hd:uS ops k=true)(hm:(ndO (yI (ops.take k)) && mkIn ⟨selT ps.tmps L,mL ps.objs M⟩ (yI (ops.take k)))=true)
  (h:jV ops (ops.take k) ⟨selT ps.tmps L,mL ps.objs M⟩ (fun ps''=>nV ps''.tmps (yI (ops.take k))=true∧vF ops (ops.drop k) ⟨ps''.tmps,ps''.objs++yI (ops.take k)⟩ K)):DrawK ops ps K :=
 ⟨.inr (.inl ⟨k,_,Wk.sel ps L M hM,hd,hm,h⟩)⟩
theorem zSK (P:A→Bool)(l:List A)(hl:l.length<2^40)(g:FuncId)(caps:List PV)(hg:∀ a,a∈l→zE g (.agg (ac a)::caps) (.bool (fun _=>P a))) :
  zE 202 [.sl (fun _=>enc ac l),.fn g caps] (.int .i64 (fun _=>vO P l)):=by
 refine sF Tryz.f202 ?_
 generalize hr:vO P l=r
 cbv
 refine zY (σ:=Nat) (fun i=>⟨[(0,.sl (fun _=>enc ac l)),(1,.fn g caps),(7,.int .i64 (fun _=>(l.length:Int))),(8,.int .i64 (fun _=>(i:Int)))],[]⟩)
  (fun i=>i≤l.length∧r=(if vO P (l.drop i)<0 then -1 else vO P (l.drop i)+i)) (fun i=>l.length - i) 0 ⟨om,?_⟩ (.le ?_ ?_ rfl) ?_
 ·rw[List.drop_zero,hr]
  have:=bU P l
  rw[hr] at this
  split <;> omega
 ·cbv
  exact⟨lR,(by cases caps <;> first | trivial | exact⟨les_refl.les1_refl _,uC _⟩),zC (by (try dsimp only [zG] at *);rw[zA]),lR,trivial⟩
 ·cbv
 intro i hs
 obtain⟨h1,h2⟩:=hs
 cbv
 refine zH (fun h5=>?_) (fun h5=>?_)
 ·cbv
  refine y5 (l:=l) i om om jA dE (fun t ht=>?_)
  have hc:=hg t (List.mem_of_getElem? ht)
  rw[zZ ht,show vO P (t::l.drop (i+1))=if P t then 0 else if vO P (l.drop (i+1))<0 then -1 else vO P (l.drop (i+1))+1 from rfl] at h2
  have hge:=bU P (l.drop (i+1))
  generalize P t=p at *
  generalize hk:vO P (l.drop (i+1))=k at *
  cbv
  refine yX rfl (by exact⟨les_refl _,cX caps⟩) hc rfl ?_
  cbv
  refine zS (fun h6=>?_) (fun h6=>?_)
  ·subst h6
   cbv
   (refine rC ?_;cbv)
   exact zC (by (try dsimp only [zG] at *);simp at h2;omega)
  ·subst h6
   cbv
   refine⟨zD om om,i+1,⟨om,?_⟩,om,.le ?_ ?_ rfl⟩
   ·(try dsimp only [zG] at *)
    simp only[Bool.false_eq_true,if_false] at h2
    rw[hk,h2]
    split <;> split <;> omega
   ·cbv
    exact⟨lR,(by cases caps <;> first | trivial | exact⟨les_refl.les1_refl _,uC _⟩),lR,zC om,trivial⟩
   ·cbv
 ·have:i=l.length:=om
  rw[this,List.drop_length] at h2
  cbv
  (refine rC ?_;cbv)
  exact zC (by rw[h2];simp [vO])
theorem zO5 (P:A→Bool)(l:List A)(hl:l.length<2^40)(g:FuncId)(caps:List PV)(hg:∀ a,a∈l→zE g (.agg (ac a)::caps) (.bool (fun _=>P a))) :
  zE 162 [.sl (fun _=>enc ac l),.fn g caps] (.bool (fun _=>l.any P)):=by
 refine sF Tryz.f162 ?_
 have hc:=zSK P l hl g caps hg
 rw[←oB]
 generalize vO P l=k at *
 cbv
 refine yX rfl (by exact⟨lR,⟨nqb_self g,uC caps⟩,trivial⟩) hc rfl ?_
 cbv
 (refine rC ?_;cbv)
 exact lR
theorem zSI (P:Mult→Bool)(l:List Mult)(hl:l.length<2^40)(g:FuncId)(caps:List PV)(hg:∀ a,a∈l→zE g (.agg (mc a)::caps) (.bool (fun _=>P a))) :
  zE 173 [.sl (fun _=>enc mc l),.fn g caps] (.int .i64 (fun _=>vO P l)):=by
 refine sF Tryz.f173 ?_
 generalize hr:vO P l=r
 cbv
 refine zY (σ:=Nat) (fun i=>⟨[(0,.sl (fun _=>enc mc l)),(1,.fn g caps),(7,.int .i64 (fun _=>(l.length:Int))),(8,.int .i64 (fun _=>(i:Int)))],[]⟩)
  (fun i=>i≤l.length∧r=(if vO P (l.drop i)<0 then -1 else vO P (l.drop i)+i)) (fun i=>l.length - i) 0 ⟨om,?_⟩ (.le ?_ ?_ rfl) ?_
 ·rw[List.drop_zero,hr]
  have:=bU P l
  rw[hr] at this
  split <;> omega
 ·cbv
  exact⟨lR,(by cases caps <;> first | trivial | exact⟨les_refl.les1_refl _,uC _⟩),zC (by (try dsimp only [zG] at *);rw[zA]),lR,trivial⟩
 ·cbv
 intro i hs
 obtain⟨h1,h2⟩:=hs
 cbv
 refine zH (fun h5=>?_) (fun h5=>?_)
 ·cbv
  refine y5 (l:=l) i om om yS yO (fun t ht=>?_)
  have hc:=hg t (List.mem_of_getElem? ht)
  rw[zZ ht,show vO P (t::l.drop (i+1))=if P t then 0 else if vO P (l.drop (i+1))<0 then -1 else vO P (l.drop (i+1))+1 from rfl] at h2
  have hge:=bU P (l.drop (i+1))
  generalize P t=p at *
  generalize hk:vO P (l.drop (i+1))=k at *
  cbv
  refine yX rfl (by exact⟨les_refl _,cX caps⟩) hc rfl ?_
  cbv
  refine zS (fun h6=>?_) (fun h6=>?_)
  ·subst h6
   cbv
   (refine rC ?_;cbv)
   exact zC (by (try dsimp only [zG] at *);simp at h2;omega)
  ·subst h6
   cbv
   refine⟨zD om om,i+1,⟨om,?_⟩,om,.le ?_ ?_ rfl⟩
   ·(try dsimp only [zG] at *)
    simp only[Bool.false_eq_true,if_false] at h2
    rw[hk,h2]
    split <;> split <;> omega
   ·cbv
    exact⟨lR,(by cases caps <;> first | trivial | exact⟨les_refl.les1_refl _,uC _⟩),lR,zC om,trivial⟩
   ·cbv
 ·have:i=l.length:=om
  rw[this,List.drop_length] at h2
  cbv
  (refine rC ?_;cbv)
  exact zC (by rw[h2];simp [vO])
theorem zSL (P:Mult→Bool)(l:List Mult)(hl:l.length<2^40)(g:FuncId)(caps:List PV)(hg:∀ a,a∈l→zE g (.agg (mc a)::caps) (.bool (fun _=>P a))) :
  zE 115 [.sl (fun _=>enc mc l),.fn g caps] (.bool (fun _=>l.any P)):=by
 refine sF Tryz.f115 ?_
 have hc:=zSI P l hl g caps hg
 rw[←oB]
 generalize vO P l=k at *
 cbv
 refine yX rfl (by exact⟨lR,⟨nqb_self g,uC caps⟩,trivial⟩) hc rfl ?_
 cbv
 (refine rC ?_;cbv)
 exact lR
theorem zSJ (P:Dec→Bool)(l:List Dec)(hl:l.length<2^40)(g:FuncId)(caps:List PV)(hg:∀ a,a∈l→zE g (.agg (dc a)::caps) (.bool (fun _=>P a))) :
  zE 131 [.sl (fun _=>enc dc l),.fn g caps] (.int .i64 (fun _=>vO P l)):=by
 refine sF Tryz.f131 ?_
 generalize hr:vO P l=r
 cbv
 refine zY (σ:=Nat) (fun i=>⟨[(0,.sl (fun _=>enc dc l)),(1,.fn g caps),(7,.int .i64 (fun _=>(l.length:Int))),(8,.int .i64 (fun _=>(i:Int)))],[]⟩)
  (fun i=>i≤l.length∧r=(if vO P (l.drop i)<0 then -1 else vO P (l.drop i)+i)) (fun i=>l.length - i) 0 ⟨om,?_⟩ (.le ?_ ?_ rfl) ?_
 ·rw[List.drop_zero,hr]
  have:=bU P l
  rw[hr] at this
  split <;> omega
 ·cbv
  exact⟨lR,(by cases caps <;> first | trivial | exact⟨les_refl.les1_refl _,uC _⟩),zC (by (try dsimp only [zG] at *);rw[zA]),lR,trivial⟩
 ·cbv
 intro i hs
 obtain⟨h1,h2⟩:=hs
 cbv
 refine zH (fun h5=>?_) (fun h5=>?_)
 ·cbv
  refine y5 (l:=l) i om om dO cH (fun t ht=>?_)
  have hc:=hg t (List.mem_of_getElem? ht)
  rw[zZ ht,show vO P (t::l.drop (i+1))=if P t then 0 else if vO P (l.drop (i+1))<0 then -1 else vO P (l.drop (i+1))+1 from rfl] at h2
  have hge:=bU P (l.drop (i+1))
  generalize P t=p at *
  generalize hk:vO P (l.drop (i+1))=k at *
  cbv
  refine yX rfl (by exact⟨les_refl _,cX caps⟩) hc rfl ?_
  cbv
  refine zS (fun h6=>?_) (fun h6=>?_)
  ·subst h6
   cbv
   (refine rC ?_;cbv)
   exact zC (by (try dsimp only [zG] at *);simp at h2;omega)
  ·subst h6
   cbv
   refine⟨zD om om,i+1,⟨om,?_⟩,om,.le ?_ ?_ rfl⟩
   ·(try dsimp only [zG] at *)
    simp only[Bool.false_eq_true,if_false] at h2
    rw[hk,h2]
    split <;> split <;> omega
   ·cbv
    exact⟨lR,(by cases caps <;> first | trivial | exact⟨les_refl.les1_refl _,uC _⟩),lR,zC om,trivial⟩
   ·cbv
 ·have:i=l.length:=om
  rw[this,List.drop_length] at h2
  cbv
  (refine rC ?_;cbv)
  exact zC (by rw[h2];simp [vO])
theorem zO4 (P:Dec→Bool)(l:List Dec)(hl:l.length<2^40)(g:FuncId)(caps:List PV)(hg:∀ a,a∈l→zE g (.agg (dc a)::caps) (.bool (fun _=>P a))) :
  zE 64 [.sl (fun _=>enc dc l),.fn g caps] (.bool (fun _=>l.any P)):=by
 refine sF Tryz.f64 ?_
 have hc:=zSJ P l hl g caps hg
 rw[←oB]
 generalize vO P l=k at *
 cbv
 refine yX rfl (by exact⟨lR,⟨nqb_self g,uC caps⟩,trivial⟩) hc rfl ?_
 cbv
 (refine rC ?_;cbv)
 exact lR
end Go.Proofs.YtgcpehdkdnkgeaaGreat
