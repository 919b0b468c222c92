/- A part of the proof: LnB, DtA, HfA. -/
import Derived.Test.YtgcpehdkdnkgeaaGreatX21
set_option linter.all false
namespace Go.Proofs.YtgcpehdkdnkgeaaGreat
open Go
set_option maxRecDepth 100000
set_option maxHeartbeats 1000000
theorem zFD {rs:List ResultVar}{r:PV}{ps ps':PS}{n:Nat}{o:Obj'}(m:Nat)(hw:Wk ps ps')(h3:lv r=true)(h4:yI ps'.objs m=some o)(h5:wU o=true)
  (h:match cS ps' rs with
  | some l=>les (nF l) (ren (fun _=>m) r)
  | none=>False):RetOk rs r [] [(n,o)] ps:=by
 cases h1:cS ps' rs with
 | none=>rw[h1] at h;exact h.elim
 | some l=>rw[h1] at h;exact⟨ps',l,fun _=>m,hw,h1,cW h,h3,⟨⟨h4,h5⟩,trivial⟩,rfl,trivial⟩
theorem qW {rs:List ResultVar}{r:PV}{ps:PS}(ps':PS)(hw:Wk ps ps')(h3:lv r=true)
  (h:match cS ps' rs with
  | some l=>les (nF l) (ren id r)
  | none=>False):RetOk rs r [] [] ps:=by
 cases h1:cS ps' rs with
 | none=>rw[h1] at h;exact h.elim
 | some l=>rw[h1] at h;exact⟨ps',l,id,hw,h1,cW h,h3,trivial,rfl,trivial⟩
theorem xM {p:Prop}[Decidable p]{A B:Unit→Prop}(h:p)(h1:A ()):Br (fun _=>decide p) A B:=zR (fun _=>h1) (fun g=>(g h).elim)
theorem z6 {p:Prop}[Decidable p]{A B:Unit→Prop}(h:¬ p)(h1:B ()):Br (fun _=>decide p) A B:=zR (fun g=>(h g).elim) (fun _=>h1)
theorem xT {p:Prop}[Decidable p]{A B:(Exit→PS→Prop)→Prop}{Q:Exit→PS→Prop}(h:p)(h1:A Q):Cut (fun _=>decide p) A B Q:=zF (fun _=>h1) (fun g=>(g h).elim)
theorem z9 {p:Prop}[Decidable p]{A B:(Exit→PS→Prop)→Prop}{Q:Exit→PS→Prop}(h:¬ p)(h1:B Q):Cut (fun _=>decide p) A B Q:=zF (fun g=>(h g).elim) (fun _=>h1)
def pcr (l:List (Int × Rat)) (v:Int) (q:Rat):List (Int × Rat):=if q=0 then l else l++[(v,q)]
theorem jL (l:List (Int × Rat))(v:Int)(q:Rat)(r):pcr l v q++r=l++pc v q r:=by
 unfold pcr pc
 split <;> simp
abbrev avo (n len:Nat) (c:R):PV:=.agg [.osl n 4 (fun _=>0) (fun _=>len),.bool (fun _=>c.neg),nat c.num,nat c.den]
theorem wF (l:List (Int × Rat)):(tR l).length=l.length:=by simp [tR]
theorem zLJ (l m:List (Int × Rat)):tR (l++m)=tR l++tR m:=by simp [tR]
theorem zG6:ty 36=.sli 4 64 [.int .i64 (fun _=>0),.ff,.nil,.nil]:=by cbv
theorem eL (l:List (Int × Rat))(c:R)(v:Int)(x:R)(hx:x.sz (2^36))(hl:l.length<2^39) :
  Sound 196 [avo 100 l.length c,.int .i64 (fun _=>v),rv x] [] [(100,.arr 4 (fun _=>enc tc (tR l)))]
   (avo 100 (pcr l v x.q).length c) [] [(100,.arr 4 (fun _=>enc tc (tR (pcr l v x.q))))]:=by
 refine sF Tryz.f196 ?_
 have cs:=s86 x (by have:=hx.n;omega)
 have cc:=s161 x hx
 have h1:yB x.q≠0→pcr l v x.q=l++[(v,x.q)]:=fun h=>if_neg (sgnQ_ne.1 h)
 have h2:¬ yB x.q≠0→pcr l v x.q=l:=fun h=>if_pos (by have:=fun g=>h (sgnQ_ne.2 g);simpa using this)
 generalize pcr l v x.q=P at *
 generalize hsg:yB x.q=sg at *
 generalize hq:x.q=q at *
 have hR:tR [(v,q)]=[(v,zC q)]:=rfl
 generalize zC q=W at *
 obtain⟨x1,x2,x3⟩:=x
 obtain⟨w1,w2,w3⟩:=W
 obtain⟨c1,c2,c3⟩:=c
 clear hq hsg
 cbv
 refine cA cs ?_
 cbv
 refine zF (fun h=>?_) (fun h=>?_)
 ·have hP:=h2 (by simpa using h)
  clear h1 h2
  subst hP
  cbv
  exact zFD 100 (.refl _) rfl rfl rfl (by cbv;exact okA)
 ·have hP:=h1 (by simpa using h)
  clear h1 h2
  subst hP
  cbv
  refine zO 7 (by cbv) ?_
  cbv
  refine dA cc ?_
  cbv
  refine wV zG6 rfl rfl rfl (by simp only[zA,wF]) rfl ⟨by simp [zL,y8]⟩ (yA (by simp only[zA,wF,zL,List.length_cons,List.length_nil];omega) (by simp only[zA,wF,zL,List.length_cons,List.length_nil];omega)) rfl ?_
  cbv
  refine zFD (ps':=⟨[(6,.ptr 6 0)],[(6,.box [.osl 17 4 (fun _=>0) (fun _=>(l++[(v,q)]).length),.bool (fun _=>c1),nat c2,nat c3]),(17,.arr 4 (fun _=>enc tc (tR (l++[(v,q)]))))]⟩) 17 (.le ?_ ?_ rfl) rfl rfl rfl ?_
  ·cbv
   exact okA
  ·cbv
   exact⟨⟨zW rfl (by simp [zA,wF,zL]),lR,lR,lR,trivial⟩,zI (by rw[zLJ,hR,←zT];rfl),trivial⟩
  ·cbv
   exact okA
theorem jK (l:List (Int × Rat))(v:Int)(q:Rat):(pcr l v q).length≤l.length+1:=by unfold pcr;split <;> simp
theorem kM {α:Type}{p:α→List PV}{n:Nat}{a:α}{l:List α}{K:List PV→Prop}(hf:∀ a,yT uT (p a)=true)(hn:∀ a,(p a).length=n)(hK:K (p a)):IdxOk n (fun _=>enc p (a::l)) (fun _=>0) K :=
 xB 0 rfl (by simp) hf hn (fun b hb=>by simp at hb;rw[←hb];exact hK)
theorem fD (t:Int × R)(l):tq (t::l)=(t.1,t.2.q)::tq l:=rfl
theorem eM (f g:A)(c:R)(hf:f.sz (2^33))(hg:g.sz (2^33))(hc:c.sz (2^33)):zB 140 [av f,av g,rv c] (fv (f.f.merge g.f c.q)):=by
 refine sF Tryz.f140 ?_
 obtain⟨ts,fc⟩:=f
 obtain⟨us,gc⟩:=g
 have hlt:=hf.t.len
 have hlu:=hg.t.len
 have hst:=hf.t.sz
 have hsu:=hg.t.sz
 have hfc:=hf.c
 have hgc:=hg.c
 have cfc:=hfc.fits (by decide)
 have cgc:=hgc.fits (by decide)
 have ccf:=hc.fits (by decide)
 simp only at hlt hlu hst hsu hfc hgc cfc cgc
 have cm:=s199 gc c (hgc.mono (by decide)) (hc.mono (by decide))
 have ca:=s138 fc (zC (gc.q * c.q)) (hfc.mono (by decide)) (zU ((xP cgc ccf).mono (by decide)))
 rw[zY] at ca
 show wp _ _ (j1 _ (.agg [tsv (tR (mrg c.q (tq ts) (tq us))),.bool (fun _=>(zC (fc.q+gc.q * c.q)).neg),nat (zC (fc.q+gc.q * c.q)).num,nat (zC (fc.q+gc.q * c.q)).den]) [] [])
 generalize zC (fc.q+gc.q * c.q)=W at *
 generalize zC (gc.q * c.q)=V at *
 generalize hM:mrg c.q (tq ts) (tq us)=M
 have hmul:∀ b:Int × R,b∈us→zB 195 [rv b.2,rv c] (rv (zC (b.2.q * c.q))):=fun b hb=>s199 b.2 c ((hsu b hb).mono (by decide)) (hc.mono (by decide))
 have hmsz:∀ b:Int × R,b∈us→(zC (b.2.q * c.q)).sz (2^34):=fun b hb=>zU ((xP ((hsu b hb).fits (by decide)) ccf).mono (by decide))
 have hadd:∀ (a b:Int × R),a∈ts→b∈us→zB 121 [rv a.2,rv (zC (b.2.q * c.q))] (rv (zC (a.2.q+b.2.q * c.q))):=fun a b ha hb=>by
  have:=s138 a.2 (zC (b.2.q * c.q)) ((hst a ha).mono (by decide)) ((hmsz b hb).mono (by decide))
  rw[zY] at this
  exact this
 have hasz:∀ (a b:Int × R),a∈ts→b∈us→(zC (a.2.q+b.2.q * c.q)).sz (2^36):=fun a b ha hb=>zU ((vA ((hst a ha).fits (by decide)) (xP ((hsu b hb).fits (by decide)) ccf)).mono (by decide))
 clear hf hg cfc cgc hfc hgc
 generalize hcq:c.q=cq at *
 obtain⟨w1,w2,w3⟩:=W
 obtain⟨fc1,fc2,fc3⟩:=fc
 obtain⟨gc1,gc2,gc3⟩:=gc
 obtain⟨c1,c2,c3⟩:=c
 cbv
 refine qO 9 (by cbv) (by cbv) ?_
 cbv
 refine dA cm ?_
 cbv
 refine dA ca ?_
 cbv
 refine zO 5 (by cbv) ?_
 cbv
 refine z4 (σ:=List (Int × Rat) × List (Int × R) × List (Int × R)) (fun s=>⟨[(5,.ptr 5 0),(6,.ptr 6 0),(7,.ptr 7 0),(8,tsv s.2.1),(9,tsv s.2.2)],[(5,.box [.bool (fun _=>c1),nat c2,nat c3]),(6,.box [.nil,.ff,.nil,.nil]),(7,.box [.osl 200 4 (fun _=>0) (fun _=>s.1.length),.bool (fun _=>w1),nat w2,nat w3]),(200,.arr 4 (fun _=>enc tc (tR s.1)))]⟩)
  (fun s=>M=s.1++mrg cq (tq s.2.1) (tq s.2.2)∧s.1.length+(s.2.1.length+s.2.2.length)≤ts.length+us.length∧(∀ t,t∈s.2.1→t∈ts)∧(∀ t,t∈s.2.2→t∈us)) (fun s=>s.2.1.length+s.2.2.length)
  ([],ts,us) ⟨hM.symm,by simp,fun _ h=>h,fun _ h=>h⟩
  (.trans (.le (ps':=⟨[(5,.ptr 5 0),(6,.ptr 6 0),(7,.ptr 7 0),(8,tsv ts),(9,tsv us)],[(5,.box [.bool (fun _=>c1),nat c2,nat c3]),(6,.box [.nil,.ff,.nil,.nil]),(7,.box [.nil,.bool (fun _=>w1),nat w2,nat w3])]⟩) ?_ ?_ rfl) (.trans (.adoptB (ps:=⟨[(5,.ptr 5 0),(6,.ptr 6 0),(7,.ptr 7 0),(8,tsv ts),(9,tsv us)],[(5,.box [.bool (fun _=>c1),nat c2,nat c3]),(6,.box [.nil,.ff,.nil,.nil]),(7,.box [.nil,.bool (fun _=>w1),nat w2,nat w3])]⟩) (cs:=[.nil,.bool (fun _=>w1),nat w2,nat w3]) 200 4 7 0 rfl rfl rfl) (.le ?_ ?_ rfl))) ?_
 ·cbv
  exact okA
 ·cbv
  exact okA
 ·cbv
  exact okA
 ·cbv
  exact⟨okA,okA,⟨zW rfl rfl,lR,lR,lR,trivial⟩,zI rfl,trivial⟩
 intro s hs
 obtain⟨hI,hL,hA,hB⟩:=hs
 generalize s.1=out at *
 generalize s.2.1=aa at *
 generalize s.2.2=bb at *
 cases aa with
 | nil =>
  cases bb with
  | nil =>
   cbv
   refine z6 (by simp [zA]) ?_
   cbv
   refine z9 (by simp [zA]) ?_
   cbv
   have hM':M=out:=by rw[hI,show tq []=[] from rfl,mrg,List.append_nil]
   subst hM'
   refine qW _ (.trans (.le (ps':=⟨[(6,.ptr 6 0)],[(6,.box [.osl 200 4 (fun _=>0) (fun _=>M.length),.bool (fun _=>w1),nat w2,nat w3]),(200,.arr 4 (fun _=>enc tc (tR M)))]⟩) ?_ ?_ rfl) (.frz 200 rfl rfl ?_ ?_)) rfl ?_
   ·cbv;exact okA
   ·cbv;exact⟨okA,zI rfl,trivial⟩
   ·exact⟨trivial,trivial⟩
   ·cbv;exact⟨⟨z8 (by simp [zA,wF]),trivial⟩,trivial⟩
   ·cbv;exact⟨zQ (List.take_of_length_le (by simp [zA,wF])),lR,lR,lR,trivial⟩
  | cons b bs =>
   have hb:=hB b List.mem_cons_self
   have cmb:=hmul b hb
   have cpb:=eL out ⟨w1,w2,w3⟩ b.1 (zC (b.2.q * cq)) ((hmsz b hb).mono (by decide)) (by omega)
   rw[zY] at cpb
   have hI':M=pcr out b.1 (b.2.q * cq)++mrg cq (tq []) (tq bs):=by rw[hI,fD,show tq []=[] from rfl,mrg,jL]
   have hpl:=jK out b.1 (b.2.q * cq)
   generalize pcr out b.1 (b.2.q * cq)=out' at *
   generalize zC (b.2.q * cq)=X at *
   cbv
   refine z6 (by simp [zA]) ?_
   cbv
   refine xT (by simp [zA] <;> omega) ?_
   cbv
   refine zO 20 (by cbv) ?_
   cbv
   refine z6 (by simp [zA] <;> omega) ?_
   cbv
   refine z6 (by simp [zA]) ?_
   cbv
   refine zO 15 (by cbv) ?_
   cbv
   refine xM (by simp [zA]) ?_
   cbv
   refine zO 11 (by cbv) ?_
   cbv
   refine kM y4 y6 ?_
   cbv
   refine kM y4 y6 ?_
   cbv
   refine dA cmb ?_
   cbv
   refine xW (fun _=>200) (.refl _) rfl okA cpb ⟨⟨rfl,rfl⟩,trivial⟩ rfl rfl rfl rfl rfl rfl rfl rfl ?_
   cbv
   refine⟨vK (by decide) (by simp [zA] <;> omega) (by simp [zA]),wN y6 _,?_⟩
   cbv
   refine⟨(out',[],bs),⟨hI',by simp at hL hpl ⊢;omega,hA,fun t ht=>hB t (List.mem_cons_of_mem _ ht)⟩,by simp,.le ?_ ?_ rfl⟩
   ·cbv;exact⟨lR,lR,lR,lR,zQ (by simp [enc,List.take_of_length_le]),trivial⟩
   ·cbv;exact⟨okA,okA,okA,zI rfl,trivial⟩
 | cons a aa =>
  have ha:=hA a List.mem_cons_self
  cases bb with
  | nil =>
   have cp:=eL out ⟨w1,w2,w3⟩ a.1 a.2 ((hst a ha).mono (by decide)) (by omega)
   have hI':M=pcr out a.1 a.2.q++mrg cq (tq aa) (tq []):=by rw[hI,fD,show tq []=[] from rfl,mrg,jL]
   have hpl:=jK out a.1 a.2.q
   generalize pcr out a.1 a.2.q=out' at *
   cbv
   refine xM (by simp [zA] <;> omega) ?_
   cbv
   refine zO 20 (by cbv) ?_
   cbv
   refine xM (by simp [zA]) ?_
   cbv
   refine zO 9 (by cbv) ?_
   cbv
   refine kM y4 y6 ?_
   cbv
   refine kM y4 y6 ?_
   cbv
   refine xW (fun _=>200) (.refl _) rfl okA cp ⟨⟨rfl,rfl⟩,trivial⟩ rfl rfl rfl rfl rfl rfl rfl rfl ?_
   cbv
   refine⟨vK (by decide) (by simp [zA] <;> omega) (by simp [zA]),wN y6 _,?_⟩
   cbv
   refine⟨(out',aa,[]),⟨hI',by simp at hL hpl ⊢;omega,fun t ht=>hA t (List.mem_cons_of_mem _ ht),hB⟩,by simp,.le ?_ ?_ rfl⟩
   ·cbv;exact⟨lR,lR,lR,zQ (by simp [enc,List.take_of_length_le]),lR,trivial⟩
   ·cbv;exact⟨okA,okA,okA,zI rfl,trivial⟩
  | cons b bb =>
   have hb:=hB b List.mem_cons_self
   cbv
   refine xM (by simp [zA] <;> omega) ?_
   cbv
   refine zO 20 (by cbv) ?_
   cbv
   refine z6 (by simp [zA] <;> omega) ?_
   cbv
   refine xM (by simp [zA] <;> omega) ?_
   cbv
   refine kM y4 y6 ?_
   cbv
   refine kM y4 y6 ?_
   cbv
   refine zF (fun hlt=>?_) (fun hlt=>?_)
   ·have cp:=eL out ⟨w1,w2,w3⟩ a.1 a.2 ((hst a ha).mono (by decide)) (by omega)
    have hI':M=pcr out a.1 a.2.q++mrg cq (tq aa) (tq (b::bb)):=by rw[hI,fD,fD,mrg,if_pos (show (a.1,a.2.q).1<(b.1,b.2.q).1 from hlt),jL]
    have hpl:=jK out a.1 a.2.q
    generalize pcr out a.1 a.2.q=out' at *
    cbv
    refine zO 9 (by cbv) ?_
    cbv
    refine kM y4 y6 ?_
    cbv
    refine kM y4 y6 ?_
    cbv
    refine xW (fun _=>200) (.refl _) rfl okA cp ⟨⟨rfl,rfl⟩,trivial⟩ rfl rfl rfl rfl rfl rfl rfl rfl ?_
    cbv
    refine⟨vK (by decide) (by simp [zA] <;> omega) (by simp [zA]),wN y6 _,?_⟩
    cbv
    refine⟨(out',aa,b::bb),⟨hI',by simp at hL hpl ⊢;omega,fun t ht=>hA t (List.mem_cons_of_mem _ ht),hB⟩,by simp,.le ?_ ?_ rfl⟩
    ·cbv;exact⟨lR,lR,lR,zQ (by simp [enc,List.take_of_length_le]),lR,trivial⟩
    ·cbv;exact⟨okA,okA,okA,zI rfl,trivial⟩
   ·cbv
    refine zO 15 (by cbv) ?_
    cbv
    refine z6 (by simp [zA] <;> omega) ?_
    cbv
    refine kM y4 y6 ?_
    cbv
    refine kM y4 y6 ?_
    cbv
    refine zF (fun hlt2=>?_) (fun hlt2=>?_)
    ·have cmb:=hmul b hb
     have cp:=eL out ⟨w1,w2,w3⟩ b.1 (zC (b.2.q * cq)) ((hmsz b hb).mono (by decide)) (by omega)
     rw[zY] at cp
     have hI':M=pcr out b.1 (b.2.q * cq)++mrg cq (tq (a::aa)) (tq bb):=by rw[hI,fD,fD,mrg,if_neg (show ¬ (a.1,a.2.q).1<(b.1,b.2.q).1 from hlt),if_pos (show (b.1,b.2.q).1<(a.1,a.2.q).1 from hlt2),jL]
     have hpl:=jK out b.1 (b.2.q * cq)
     generalize pcr out b.1 (b.2.q * cq)=out' at *
     generalize zC (b.2.q * cq)=X at *
     cbv
     refine zO 11 (by cbv) ?_
     cbv
     refine kM y4 y6 ?_
     cbv
     refine kM y4 y6 ?_
     cbv
     refine dA cmb ?_
     cbv
     refine xW (fun _=>200) (.refl _) rfl okA cp ⟨⟨rfl,rfl⟩,trivial⟩ rfl rfl rfl rfl rfl rfl rfl rfl ?_
     cbv
     refine⟨vK (by decide) (by simp [zA] <;> omega) (by simp [zA]),wN y6 _,?_⟩
     cbv
     refine⟨(out',a::aa,bb),⟨hI',by simp at hL hpl ⊢;omega,hA,fun t ht=>hB t (List.mem_cons_of_mem _ ht)⟩,by simp,.le ?_ ?_ rfl⟩
     ·cbv;exact⟨lR,lR,lR,lR,zQ (by simp [enc,List.take_of_length_le]),trivial⟩
     ·cbv;exact⟨okA,okA,okA,zI rfl,trivial⟩
    ·have cmb:=hmul b hb
     have cab:=hadd a b ha hb
     have cp:=eL out ⟨w1,w2,w3⟩ a.1 (zC (a.2.q+b.2.q * cq)) ((hasz a b ha hb).mono (by decide)) (by omega)
     rw[zY] at cp
     have hI':M=pcr out a.1 (a.2.q+b.2.q * cq)++mrg cq (tq aa) (tq bb):=by rw[hI,fD,fD,mrg,if_neg (show ¬ (a.1,a.2.q).1<(b.1,b.2.q).1 from hlt),if_neg (show ¬ (b.1,b.2.q).1<(a.1,a.2.q).1 from hlt2),jL]
     have hpl:=jK out a.1 (a.2.q+b.2.q * cq)
     generalize pcr out a.1 (a.2.q+b.2.q * cq)=out' at *
     generalize zC (a.2.q+b.2.q * cq)=Y at *
     generalize zC (b.2.q * cq)=X at *
     cbv
     refine zO 16 (by cbv) ?_
     cbv
     refine kM y4 y6 ?_
     cbv
     refine kM y4 y6 ?_
     cbv
     refine kM y4 y6 ?_
     cbv
     refine dA cmb ?_
     cbv
     refine dA cab ?_
     cbv
     refine xW (fun _=>200) (.refl _) rfl okA cp ⟨⟨rfl,rfl⟩,trivial⟩ rfl rfl rfl rfl rfl rfl rfl rfl ?_
     cbv
     refine zO 5 (by cbv) ?_
     cbv
     refine⟨vK (by decide) (by simp [zA] <;> omega) (by simp [zA]),wN y6 _,?_⟩
     cbv
     refine⟨vK (by decide) (by simp [zA] <;> omega) (by simp [zA]),wN y6 _,?_⟩
     cbv
     refine⟨(out',aa,bb),⟨hI',by simp at hL hpl ⊢;omega,fun t ht=>hA t (List.mem_cons_of_mem _ ht),fun t ht=>hB t (List.mem_cons_of_mem _ ht)⟩,by simp <;> omega,.le ?_ ?_ rfl⟩
     ·cbv;exact⟨lR,lR,lR,zQ (by simp [enc,List.take_of_length_le]),zQ (by simp [enc,List.take_of_length_le]),trivial⟩
     ·cbv;exact⟨okA,okA,okA,zI rfl,trivial⟩
theorem b7 (z:Int)(h1:-1000≤z)(h2:z≤1000):(zC (z:Rat)).sz 1:=zU (mO (by show z.natAbs<4294967296 ^ 1;omega) (by decide))
theorem zDA (f g:A)(hf:f.sz (2^33))(hg:g.sz (2^33)):zB 107 [av f,av g] (fv (f.f.add g.f)):=by
 refine sF Tryz.f107 ?_
 have c1:=s104 1 (by decide) (by decide)
 have cm:=eM f g (zC ((1:Int):Rat)) hf hg ((b7 1 (by decide) (by decide)).mono (by decide))
 rw[zY] at cm
 have e:f.f.merge g.f ((1:Int):Rat)=f.f.add g.f:=rfl
 rw[e] at cm
 generalize fA (f.f.add g.f)=W at *
 generalize zC ((1:Int):Rat)=o at *
 obtain⟨ft,f1,f2,f3⟩:=f
 obtain⟨gt,g1,g2,g3⟩:=g
 obtain⟨wt,w1,w2,w3⟩:=W
 cbv
 refine zO 4 (by cbv) ?_
 cbv
 refine dA c1 ?_
 cbv
 refine dA cm ?_
 cbv
 (refine rC ?_;cbv)
 exact okA
theorem fZ (f g:A)(hf:f.sz (2^33))(hg:g.sz (2^33)):zB 76 [av f,av g] (fv (f.f.sub g.f)):=by
 refine sF Tryz.f76 ?_
 have c1:=s104 (-1) (by decide) (by decide)
 have cm:=eM f g (zC ((-1:Int):Rat)) hf hg ((b7 (-1) (by decide) (by decide)).mono (by decide))
 rw[zY] at cm
 have e:f.f.merge g.f ((-1:Int):Rat)=f.f.sub g.f:=rfl
 rw[e] at cm
 generalize fA (f.f.sub g.f)=W at *
 generalize zC ((-1:Int):Rat)=o at *
 obtain⟨ft,f1,f2,f3⟩:=f
 obtain⟨gt,g1,g2,g3⟩:=g
 obtain⟨wt,w1,w2,w3⟩:=W
 cbv
 refine zO 4 (by cbv) ?_
 cbv
 refine dA c1 ?_
 cbv
 refine dA cm ?_
 cbv
 (refine rC ?_;cbv)
 exact okA
theorem bB (f:A)(c:R)(hf:f.sz (2^33))(hc:c.sz (2^33)):zB 108 [av f,rv c] (fv (f.f.scale c.q)):=by
 refine sF Tryz.f108 ?_
 have cm:=eM ⟨[],⟨false,[],[]⟩⟩ f c ⟨⟨by decide,fun _ h=>absurd h (by simp)⟩,⟨by decide,by decide⟩⟩ hf hc
 have e:(A.f ⟨[],⟨false,[],[]⟩⟩).merge f.f c.q=f.f.scale c.q:=rfl
 rw[e] at cm
 generalize fA (f.f.scale c.q)=W at *
 obtain⟨ft,f1,f2,f3⟩:=f
 obtain⟨c1,c2,c3⟩:=c
 obtain⟨wt,w1,w2,w3⟩:=W
 cbv
 refine yQ rfl okA cm rfl ?_
 cbv
 (refine rC ?_;cbv)
 exact okA
structure Row where
 k:Int
 i:Int
 lo:Int
 hi:Int
deriving DecidableEq
structure Mult where
 row:Row
 c:R
deriving DecidableEq
structure Dec where
 k:Int
 i:Int
 x:R
structure Lem where
 u:Int
 up:Bool
 v:R
 pf:List Mult
structure Grp where
 n:Int
 us:List A
 os:List A
structure Reg where
 lo:List R
 hi:List R
 rows:List A
structure Qry where
 g:Grp
 r:Reg
 goal:A
structure Scp where
 q:Qry
 path:List Dec
 lems:List Lem
abbrev rlv (l:List R):PV:=.sl (fun _=>enc rc l)
abbrev alv (l:List A):PV:=.sl (fun _=>enc ac l)
abbrev rwc (r:Row):List PV:=[.int .i64 (fun _=>r.k),.int .i64 (fun _=>r.i),.int .i64 (fun _=>r.lo),.int .i64 (fun _=>r.hi)]
abbrev rwv (r:Row):PV:=.agg [.int .i64 (fun _=>r.k),.int .i64 (fun _=>r.i),.int .i64 (fun _=>r.lo),.int .i64 (fun _=>r.hi)]
def mc (m:Mult):List PV:=[.int .i64 (fun _=>m.row.k),.int .i64 (fun _=>m.row.i),.int .i64 (fun _=>m.row.lo),.int .i64 (fun _=>m.row.hi),.bool (fun _=>m.c.neg),nat m.c.num,nat m.c.den]
abbrev mv (m:Mult):PV:=.agg [.int .i64 (fun _=>m.row.k),.int .i64 (fun _=>m.row.i),.int .i64 (fun _=>m.row.lo),.int .i64 (fun _=>m.row.hi),.bool (fun _=>m.c.neg),nat m.c.num,nat m.c.den]
abbrev mlv (l:List Mult):PV:=.sl (fun _=>enc mc l)
def dc (d:Dec):List PV:=[.int .i64 (fun _=>d.k),.int .i64 (fun _=>d.i),.bool (fun _=>d.x.neg),nat d.x.num,nat d.x.den]
abbrev dv (d:Dec):PV:=.agg [.int .i64 (fun _=>d.k),.int .i64 (fun _=>d.i),.bool (fun _=>d.x.neg),nat d.x.num,nat d.x.den]
abbrev dlv (l:List Dec):PV:=.sl (fun _=>enc dc l)
def lc (l:Lem):List PV:=[.int .i64 (fun _=>l.u),.bool (fun _=>l.up),.bool (fun _=>l.v.neg),nat l.v.num,nat l.v.den,mlv l.pf]
abbrev lv' (l:Lem):PV:=.agg [.int .i64 (fun _=>l.u),.bool (fun _=>l.up),.bool (fun _=>l.v.neg),nat l.v.num,nat l.v.den,mlv l.pf]
abbrev llv (l:List Lem):PV:=.sl (fun _=>enc lc l)
abbrev gv (g:Grp):PV:=.agg [.int .i64 (fun _=>g.n),alv g.us,alv g.os]
abbrev rgv (r:Reg):PV:=.agg [rlv r.lo,rlv r.hi,alv r.rows]
abbrev qv (q:Qry):PV:=.agg [.int .i64 (fun _=>q.g.n),alv q.g.us,alv q.g.os,rlv q.r.lo,rlv q.r.hi,alv q.r.rows,tsv q.goal.ts,.bool (fun _=>q.goal.c.neg),nat q.goal.c.num,nat q.goal.c.den]
def qc (q:Qry):List PV:=[.int .i64 (fun _=>q.g.n),alv q.g.us,alv q.g.os,rlv q.r.lo,rlv q.r.hi,alv q.r.rows,tsv q.goal.ts,.bool (fun _=>q.goal.c.neg),nat q.goal.c.num,nat q.goal.c.den]
abbrev sv (s:Scp):PV:=.agg [.int .i64 (fun _=>s.q.g.n),alv s.q.g.us,alv s.q.g.os,rlv s.q.r.lo,rlv s.q.r.hi,alv s.q.r.rows,tsv s.q.goal.ts,.bool (fun _=>s.q.goal.c.neg),nat s.q.goal.c.num,nat s.q.goal.c.den,dlv s.path,llv s.lems]
def sc (s:Scp):List PV:=[.int .i64 (fun _=>s.q.g.n),alv s.q.g.us,alv s.q.g.os,rlv s.q.r.lo,rlv s.q.r.hi,alv s.q.r.rows,tsv s.q.goal.ts,.bool (fun _=>s.q.goal.c.neg),nat s.q.goal.c.num,nat s.q.goal.c.den,dlv s.path,llv s.lems]
theorem jN (a:Mult):yT uT (mc a)=true:=rfl
theorem w8 (a:Mult):(mc a).length=7:=rfl
theorem cH (a:Dec):yT uT (dc a)=true:=rfl
theorem s3 (a:Dec):(dc a).length=5:=rfl
theorem vD (a:Lem):yT uT (lc a)=true:=rfl
theorem uO (a:Lem):(lc a).length=6:=rfl
structure Asz (k:Nat) (l:List A):Prop where
 len:l.length<2^38
 sz:∀ a,a∈l→a.sz k
structure Rsz (k:Nat) (l:List R):Prop where
 len:l.length<2^38
 sz:∀ a,a∈l→a.sz k
structure Msz (k:Nat) (l:List Mult):Prop where
 len:l.length<2^38
 sz:∀ a,a∈l→a.c.sz k
structure Dsz (k:Nat) (l:List Dec):Prop where
 len:l.length<2^38
 sz:∀ a,a∈l→a.x.sz k
structure Lsz (k:Nat) (l:List Lem):Prop where
 len:l.length<2^38
 sz:∀ a,a∈l→a.v.sz k
 pf:∀ a,a∈l→Msz k a.pf
structure Grp.sz (g:Grp) (k:Nat):Prop where
 us:Asz k g.us
 os:Asz k g.os
structure Reg.sz (r:Reg) (k:Nat):Prop where
 lo:Rsz k r.lo
 hi:Rsz k r.hi
 rows:Asz k r.rows
structure Qry.sz (q:Qry) (k:Nat):Prop where
 g:q.g.sz k
 r:q.r.sz k
 goal:q.goal.sz k
structure Scp.sz (s:Scp) (k:Nat):Prop where
 q:s.q.sz k
 path:Dsz k s.path
 lems:Lsz k s.lems
theorem Asz.mono {k m:Nat}{l}(h:Asz k l)(hm:k≤m):Asz m l:=⟨h.len,fun a ha=>(h.sz a ha).mono hm⟩
theorem Rsz.mono {k m:Nat}{l}(h:Rsz k l)(hm:k≤m):Rsz m l:=⟨h.len,fun a ha=>(h.sz a ha).mono hm⟩
theorem Msz.mono {k m:Nat}{l}(h:Msz k l)(hm:k≤m):Msz m l:=⟨h.len,fun a ha=>(h.sz a ha).mono hm⟩
theorem Dsz.mono {k m:Nat}{l}(h:Dsz k l)(hm:k≤m):Dsz m l:=⟨h.len,fun a ha=>(h.sz a ha).mono hm⟩
theorem Lsz.mono {k m:Nat}{l}(h:Lsz k l)(hm:k≤m):Lsz m l:=⟨h.len,fun a ha=>(h.sz a ha).mono hm,fun a ha=>(h.pf a ha).mono hm⟩
theorem Grp.sz.mono {k m:Nat}{g:Grp}(h:g.sz k)(hm:k≤m):g.sz m:=⟨h.us.mono hm,h.os.mono hm⟩
theorem Reg.sz.mono {k m:Nat}{g:Reg}(h:g.sz k)(hm:k≤m):g.sz m:=⟨h.lo.mono hm,h.hi.mono hm,h.rows.mono hm⟩
theorem Qry.sz.mono {k m:Nat}{g:Qry}(h:g.sz k)(hm:k≤m):g.sz m:=⟨h.g.mono hm,h.r.mono hm,h.goal.mono hm⟩
theorem Scp.sz.mono {k m:Nat}{g:Scp}(h:g.sz k)(hm:k≤m):g.sz m:=⟨h.q.mono hm,h.path.mono hm,h.lems.mono hm⟩
def vU:Int→List A→Bool
 | _,[]=>true
 | k,f::r=>f.valid k && vU (k+1) r
def Grp.vars (g:Grp):Int:=g.n+g.us.length
def Grp.valid (g:Grp):Bool:=decide (1≤g.n∧g.n≤256∧g.us.length≤1024∧1≤g.os.length∧g.os.length≤256) && vU g.n g.us && g.os.all (A.valid g.vars)
def vB:List R→List R→Bool
 | l::ls,h::hs=>l.ok && h.ok && decide (y7 l.q h.q≤0) && vB ls hs
 | _,_=>true
def Reg.valid (n:Int) (r:Reg):Bool:=decide (1≤n∧n≤256∧(r.lo.length:Int)=n∧(r.hi.length:Int)=n∧r.rows.length≤256) && vB r.lo r.hi && r.rows.all (A.valid n)
def Qry.valid (q:Qry):Bool:=q.g.valid && q.r.valid q.g.n && q.goal.valid q.g.vars
def Dec.fits (q:Qry) (d:Dec):Bool :=
 if d.k=1∨d.k=2 then decide (0≤d.i∧d.i<q.g.us.length) && decide (d.x=⟨false,[],[]⟩)
 else if d.k=3∨d.k=4 then decide (0≤d.i∧d.i<q.g.n) && d.x.ok
 else false
def qV {α:Type} (P:α→Bool):List α→Int
 | []=>-1
 | a::r=>if P a then 0 else if qV P r<0 then -1 else qV P r+1
theorem mI {α:Type}(P:α→Bool):∀ l:List α,-1≤qV P l
 | []=>by simp [qV]
 | a::r=>by have:=mI P r;simp only[qV];split <;> (try split) <;> omega
theorem zEO {α:Type}(P:α→Bool):∀ l:List α,0≤qV P l↔l.any P=true
 | []=>by simp [qV]
 | a::r=>by
  have ih:=zEO P r
  rw[List.any_cons,Bool.or_eq_true,←ih]
  rw[show qV P (a::r)=if P a then 0 else if qV P r<0 then -1 else qV P r+1 from rfl]
  by_cases h:P a=true
  ·simp [h]
  ·rw[if_neg h]
   have:(P a=true∨0≤qV P r)↔0≤qV P r:=⟨fun g=>g.resolve_left h,.inr⟩
   rw[this]
   split <;> omega
theorem zEP {α:Type}(P:α→Bool)(l:List α):decide (0≤qV P l)=l.any P:=by
 rw[Bool.eq_iff_iff,decide_eq_true_eq,zEO]
theorem les_refl:∀ a:PV,les a a
 | .agg cs=>allLe_refl1 cs
 | .tup cs=>allLe_refl1 cs
 | .fn f cs=>⟨nqb_self f,allLe_refl1 cs⟩
 | .int k n=>lR
 | .tt=>lR
 | .ff=>lR
 | .bool b=>lR
 | .nbool b=>lR
 | .str s=>lR
 | .nil=>lR
 | .sl els=>lR
 | .ptr n o=>lR
 | .aptr n s i o=>lR
 | .dptr cs o=>lR
 | .osl n s o l=>lR
 | .nilf=>lR
 | .any=>lR
where
 les1_refl:∀ a:PV,les1 a a
  | .agg cs=>allLeS_refl cs
  | .tup cs=>allLeS_refl cs
  | .fn f cs=>lR
  | .int k n=>lR
  | .tt=>lR
  | .ff=>lR
  | .bool b=>lR
  | .nbool b=>lR
  | .str s=>lR
  | .nil=>lR
  | .sl els=>lR
  | .ptr n o=>lR
  | .aptr n s i o=>lR
  | .dptr cs o=>lR
  | .osl n s o l=>lR
  | .nilf=>lR
  | .any=>lR
 allLeS_refl:∀ l:List PV,kB LeS l l
  | []=>trivial
  | a::r=>⟨sN a,allLeS_refl r⟩
 allLe_refl1:∀ l:List PV,kB les1 l l
  | []=>trivial
  | a::r=>⟨les1_refl a,allLe_refl1 r⟩
theorem rL:∀ l:List PV,kB les l l
 | []=>trivial
 | a::r=>⟨les_refl a,rL r⟩
theorem j4 (l:List PV):kB les1 l l:=les_refl.allLe_refl1 l
def selT (T:List (Nat × PV)):List Nat→List (Nat × PV)
 | []=>[]
 | t::r=>(t,zD T t)::selT T r
def m8 (O:List (Nat × Obj')):List Nat→List (Nat × Obj')
 | []=>[]
 | n::r=>(match yI O n with
  | some o=>(n,o)::m8 O r
  | none=>m8 O r)
def ndN:List Nat→Bool
 | []=>true
 | n::r=>!(yC n r) && ndN r
theorem zFQ:∀ o:Obj',zF9 o o
 | .box cs=>rL cs
 | .arr s e=>⟨nqb_self s,⟨rfl⟩⟩
 | .log s e=>⟨nqb_self s,⟨rfl⟩⟩
 | .lent s e=>⟨nqb_self s,⟨rfl⟩⟩
theorem zHW (T:List (Nat × PV)):∀ L,leT T (selT T L)
 | []=>trivial
 | t::r=>⟨les_refl _,zHW T r⟩
theorem zCH (O:List (Nat × Obj')):∀ M,leO O (m8 O M)
 | []=>trivial
 | n::r=>by
  unfold m8
  cases h:yI O n with
  | none=>exact zCH O r
  | some o =>
   refine⟨?_,zCH O r⟩
   rw[h]
   exact zFQ o
theorem oN (O:List (Nat × Obj'))(m:Nat):∀ M,yC m M=false→hasN m (m8 O M)=false
 | [],_=>rfl
 | n::r,h=>by
  simp only[yC,Bool.or_eq_false_iff] at h
  unfold m8
  cases yI O n with
  | none=>exact oN O m r h.2
  | some o =>
   simp only[hasN,Bool.or_eq_false_iff]
   refine⟨?_,oN O m r h.2⟩
   have:=h.1
   cases hx:nqb n m with
   | false=>rfl
   | true=>rw[yN hx,nqb_self] at this;cases this
theorem zCD (O:List (Nat × Obj')):∀ M,ndN M=true→ndO (m8 O M)=true
 | [],_=>rfl
 | n::r,h=>by
  simp only[ndN,Bool.and_eq_true,Bool.not_eq_true'] at h
  unfold m8
  cases yI O n with
  | none=>exact zCD O r h.2
  | some o =>
   simp only[ndO,Bool.and_eq_true,Bool.not_eq_true']
   exact⟨oN O n r h.1,zCD O r h.2⟩
theorem Wk.sel (ps:PS)(L M:List Nat)(h:ndN M=true):Wk ps ⟨selT ps.tmps L,m8 ps.objs M⟩:=.le (zHW _ _) (zCH _ _) (zCD _ _ h)
theorem jT {g as_ dst ps K f caps args' r}(L M:List Nat)(hM:ndN M=true)(h1:ev (zD (selT ps.tmps L)) g=.fn f caps)(h2:kB les (evs (ev (zD (selT ps.tmps L))) as_++caps) args')(h3:zB f args' r)(h5:nmIn [] r=true)
  (h4:K (put ⟨selT ps.tmps L,m8 ps.objs M⟩ dst r)):CallOk g as_ dst ps K:=uC (Wk.sel ps L M hM) h1 h2 h3 h5 h4
theorem bL {ops:List Oper}{ps:PS}{K:PS→Prop}(k:Nat)(L M:List Nat)(hM:ndN M=true)(hd:kP ops k=true)(h:cO ops (ops.take k) ⟨selT ps.tmps L,m8 ps.objs M⟩ (fun ps''=>vO ops (ops.drop k) ps'' K)):DrawK ops ps K :=
 ⟨.inl ⟨k,_,Wk.sel ps L M hM,hd,h⟩⟩
theorem oX {ops:List Oper}{ps:PS}{K:PS→Prop}(k:Nat)(L M:List Nat)(hM:ndN M=true)(hd:kP ops k=true)(hm:(ndO (yJ (ops.take k)) && mkIn ⟨selT ps.tmps L,m8 ps.objs M⟩ (yJ (ops.take k)))=true)
  (h:gF ops (ops.take k) ⟨selT ps.tmps L,m8 ps.objs M⟩ (fun ps''=>lK ps''.tmps (yJ (ops.take k))=true∧vO ops (ops.drop k) ⟨ps''.tmps,ps''.objs++yJ (ops.take k)⟩ K)):DrawK ops ps K :=
 ⟨.inr (.inl ⟨k,_,Wk.sel ps L M hM,hd,hm,h⟩)⟩
theorem zSX (P:A→Bool)(l:List A)(hl:l.length<2^40)(g:FuncId)(caps:List PV)(hg:∀ a,a∈l→zB g (.agg (ac a)::caps) (.bool (fun _=>P a))) :
  zB 202 [.sl (fun _=>enc ac l),.fn g caps] (.int .i64 (fun _=>qV P l)):=by
 refine sF Tryz.f202 ?_
 generalize hr:qV P l=r
 cbv
 refine z4 (σ:=Nat) (fun i=>⟨[(0,.sl (fun _=>enc ac l)),(1,.fn g caps),(7,.int .i64 (fun _=>(l.length:Int))),(8,.int .i64 (fun _=>(i:Int)))],[]⟩)
  (fun i=>i≤l.length∧r=(if qV P (l.drop i)<0 then -1 else qV P (l.drop i)+i)) (fun i=>l.length - i) 0 ⟨om,?_⟩ (.le ?_ ?_ rfl) ?_
 ·rw[List.drop_zero,hr]
  have:=mI P l
  rw[hr] at this
  split <;> omega
 ·cbv
  exact⟨lR,(by cases caps <;> first | trivial | exact⟨les_refl.les1_refl _,j4 _⟩),zE (by (try dsimp only [zG] at *);rw[zA]),lR,trivial⟩
 ·cbv
 intro i hs
 obtain⟨h1,h2⟩:=hs
 cbv
 refine zF (fun h5=>?_) (fun h5=>?_)
 ·cbv
  refine xB (l:=l) i om om vR uR (fun t ht=>?_)
  have hc:=hg t (List.mem_of_getElem? ht)
  rw[yE ht,show qV P (t::l.drop (i+1))=if P t then 0 else if qV P (l.drop (i+1))<0 then -1 else qV P (l.drop (i+1))+1 from rfl] at h2
  have hge:=mI P (l.drop (i+1))
  generalize P t=p at *
  generalize hk:qV P (l.drop (i+1))=k at *
  cbv
  refine yQ rfl (by exact⟨les_refl _,rL caps⟩) hc rfl ?_
  cbv
  refine zV (fun h6=>?_) (fun h6=>?_)
  ·subst h6
   cbv
   (refine rC ?_;cbv)
   exact zE (by (try dsimp only [zG] at *);simp at h2;omega)
  ·subst h6
   cbv
   refine⟨zH om om,i+1,⟨om,?_⟩,om,.le ?_ ?_ rfl⟩
   ·(try dsimp only [zG] at *)
    simp only[Bool.false_eq_true,if_false] at h2
    rw[hk,h2]
    split <;> split <;> omega
   ·cbv
    exact⟨lR,(by cases caps <;> first | trivial | exact⟨les_refl.les1_refl _,j4 _⟩),lR,zE om,trivial⟩
   ·cbv
 ·have:i=l.length:=om
  rw[this,List.drop_length] at h2
  cbv
  (refine rC ?_;cbv)
  exact zE (by rw[h2];simp [qV])
theorem zMX (P:A→Bool)(l:List A)(hl:l.length<2^40)(g:FuncId)(caps:List PV)(hg:∀ a,a∈l→zB g (.agg (ac a)::caps) (.bool (fun _=>P a))) :
  zB 162 [.sl (fun _=>enc ac l),.fn g caps] (.bool (fun _=>l.any P)):=by
 refine sF Tryz.f162 ?_
 have hc:=zSX P l hl g caps hg
 rw[←zEP]
 generalize qV P l=k at *
 cbv
 refine yQ rfl (by exact⟨lR,⟨nqb_self g,j4 caps⟩,trivial⟩) hc rfl ?_
 cbv
 (refine rC ?_;cbv)
 exact lR
theorem zSW (P:Dec→Bool)(l:List Dec)(hl:l.length<2^40)(g:FuncId)(caps:List PV)(hg:∀ a,a∈l→zB g (.agg (dc a)::caps) (.bool (fun _=>P a))) :
  zB 131 [.sl (fun _=>enc dc l),.fn g caps] (.int .i64 (fun _=>qV P l)):=by
 refine sF Tryz.f131 ?_
 generalize hr:qV P l=r
 cbv
 refine z4 (σ:=Nat) (fun i=>⟨[(0,.sl (fun _=>enc dc l)),(1,.fn g caps),(7,.int .i64 (fun _=>(l.length:Int))),(8,.int .i64 (fun _=>(i:Int)))],[]⟩)
  (fun i=>i≤l.length∧r=(if qV P (l.drop i)<0 then -1 else qV P (l.drop i)+i)) (fun i=>l.length - i) 0 ⟨om,?_⟩ (.le ?_ ?_ rfl) ?_
 ·rw[List.drop_zero,hr]
  have:=mI P l
  rw[hr] at this
  split <;> omega
 ·cbv
  exact⟨lR,(by cases caps <;> first | trivial | exact⟨les_refl.les1_refl _,j4 _⟩),zE (by (try dsimp only [zG] at *);rw[zA]),lR,trivial⟩
 ·cbv
 intro i hs
 obtain⟨h1,h2⟩:=hs
 cbv
 refine zF (fun h5=>?_) (fun h5=>?_)
 ·cbv
  refine xB (l:=l) i om om cH s3 (fun t ht=>?_)
  have hc:=hg t (List.mem_of_getElem? ht)
  rw[yE ht,show qV P (t::l.drop (i+1))=if P t then 0 else if qV P (l.drop (i+1))<0 then -1 else qV P (l.drop (i+1))+1 from rfl] at h2
  have hge:=mI P (l.drop (i+1))
  generalize P t=p at *
  generalize hk:qV P (l.drop (i+1))=k at *
  cbv
  refine yQ rfl (by exact⟨les_refl _,rL caps⟩) hc rfl ?_
  cbv
  refine zV (fun h6=>?_) (fun h6=>?_)
  ·subst h6
   cbv
   (refine rC ?_;cbv)
   exact zE (by (try dsimp only [zG] at *);simp at h2;omega)
  ·subst h6
   cbv
   refine⟨zH om om,i+1,⟨om,?_⟩,om,.le ?_ ?_ rfl⟩
   ·(try dsimp only [zG] at *)
    simp only[Bool.false_eq_true,if_false] at h2
    rw[hk,h2]
    split <;> split <;> omega
   ·cbv
    exact⟨lR,(by cases caps <;> first | trivial | exact⟨les_refl.les1_refl _,j4 _⟩),lR,zE om,trivial⟩
   ·cbv
 ·have:i=l.length:=om
  rw[this,List.drop_length] at h2
  cbv
  (refine rC ?_;cbv)
  exact zE (by rw[h2];simp [qV])
theorem zMW (P:Dec→Bool)(l:List Dec)(hl:l.length<2^40)(g:FuncId)(caps:List PV)(hg:∀ a,a∈l→zB g (.agg (dc a)::caps) (.bool (fun _=>P a))) :
  zB 64 [.sl (fun _=>enc dc l),.fn g caps] (.bool (fun _=>l.any P)):=by
 refine sF Tryz.f64 ?_
 have hc:=zSW P l hl g caps hg
 rw[←zEP]
 generalize qV P l=k at *
 cbv
 refine yQ rfl (by exact⟨lR,⟨nqb_self g,j4 caps⟩,trivial⟩) hc rfl ?_
 cbv
 (refine rC ?_;cbv)
 exact lR
end Go.Proofs.YtgcpehdkdnkgeaaGreat
