/- A part of the proof: LnB, DtA, HfA, VaA. -/
import Derived.Test.YtaeaffgjdcigoaaGreatC20
set_option linter.all false
namespace Go.Proofs.YtaeaffgjdcigoaaGreat
open Go
set_option maxRecDepth 100000
set_option maxHeartbeats 1000000
theorem tC {rs:List ResultVar}{r:PV}{ps ps':PS}{n:Nat}{o:Obj'}(m:Nat)(hw:Wk ps ps')(h3:lv r=true)(h4:yG ps'.objs m=some (xY (ren (fun _=>m)) o))(h5:cR o=true) (h:match dJ ps' rs with
  |some l=>les (lD l) (ren (fun _=>m) r)| none=>False):RetOk rs r [] [(n,o)] ps:=by
 cases h1:dJ ps' rs with
 |none=>grind| some l=>rw[h1] at h;exact⟨ps',l,fun _=>m,hw,h1,dO h,h3,⟨⟨h4,h5⟩,trivial⟩,rfl,trivial⟩
theorem tB {rs:List ResultVar}{r:PV}{ps:PS}(ps':PS)(hw:Wk ps ps')(h3:lv r=true) (h:match dJ ps' rs with
  |some l=>les (lD l) (ren id r)| none=>False):RetOk rs r [] [] ps:=by
 cases h1:dJ ps' rs with
 |none=>grind| some l=>rw[h1] at h;exact⟨ps',l,id,hw,h1,dO h,h3,trivial,rfl,trivial⟩
theorem uZ {p:Prop}[Decidable p]{A B:Unit->Prop}(h:p)(h1:A ()):Br (fun _=>decide p) A B:=zQ (fun _=>h1) (fun g=>(g h).elim)
theorem z9 {p:Prop}[Decidable p]{A B:Unit->Prop}(h:¬p)(h1:B ()):Br (fun _=>decide p) A B:=zQ (fun g=>(h g).elim) (fun _=>h1)
theorem w7 {p:Prop}[Decidable p]{A B:(Exit->PS->Prop)->Prop}{Q:Exit->PS->Prop}(h:p)(h1:A Q):Cut (fun _=>decide p) A B Q:=zG (fun _=>h1) (fun g=>(g h).elim)
theorem yB {p:Prop}[Decidable p]{A B:(Exit->PS->Prop)->Prop}{Q:Exit->PS->Prop}(h:¬p)(h1:B Q):Cut (fun _=>decide p) A B Q:=zG (fun g=>(h g).elim) (fun _=>h1)
def pcr (l:List (Int×Rat)) (v:Int) (q:Rat):List (Int×Rat):=if q=0 then l else l++[(v,q)]
theorem fO (l:List (Int×Rat))(v:Int)(q:Rat)(r):pcr l v q++r=l++pc v q r:=by grind [pcr,pc]
abbrev avo (n len:Nat) (c:R):PV:=.agg [.osl n 4 (fun _=>0) (fun _=>len),.bool (fun _=>c.neg),nat c.num,nat c.den]
theorem vI (l:List (Int×Rat)):(tR l).length=l.length:=by simp[tR]
theorem zSJ (l m:List (Int×Rat)):tR (l++m)=tR l++tR m:=by simp[tR]
theorem zNO:ty 30=.sli 4 64 [.int .i64 (fun _=>0),.ff,.nil,.nil]:=by cbv
theorem zFB (l:List (Int×Rat))(c:R)(v:Int)(x:R)(hx:x.sz (2^36))(hl:l.length<2^39):Sound 268 [avo 100 l.length c,.int .i64 (fun _=>v),rv x] [] [(100,.arr 4 (fun _=>enc tc (tR l)))] (avo 100 (pcr l v x.q).length c) [] [(100,.arr 4 (fun _=>enc tc (tR (pcr l v x.q))))]:=by
 refine sF Tryz.f268 ?_;have cs:=s86 x (by have:=hx.n;omega);have cc:=s161 x hx;have h1:z4 x.q≠0->pcr l v x.q=l++[(v,x.q)]:=fun h=>if_neg (sgnQ_ne.1 h);have h2:¬z4 x.q≠0->pcr l v x.q=l:=fun h=>if_pos (by grind [sgnQ_ne]);generalize pcr l v x.q=P at *
 generalize hsg:z4 x.q=sg at *
 generalize hq:x.q=q at *
 have hR:tR [(v,q)]=[(v,zJ q)]:=rfl;generalize zJ q=W at *
 obtain⟨x1,x2,x3⟩:=x;obtain⟨w1,w2,w3⟩:=W;obtain⟨c1,c2,c3⟩:=c;clear hq hsg;cbv;refine cA cs ?_;cbv;refine zG (fun h=>?_) (fun h=>?_);{have hP:=h2 oM;clear h1 h2;subst hP;cbv;exact tC 100 (.refl _) rfl rfl rfl (by cbv;exact okA)};{have hP:=h1 oM;clear h1 h2;subst hP;cbv;refine zN 7 (by cbv) ?_;cbv;refine dA cc ?_;cbv;refine wE zNO rfl rfl rfl (by simp only[zA,vI]) rfl ⟨by simp[zS,wB]⟩ (yD oM (by simp only[zA,vI,zS,kI,sZ];omega)) rfl ?_;cbv;refine tC (ps':=⟨[(6,.ptr 6 0)],[(6,.box [.osl 17 4 (fun _=>0) (fun _=>(l++[(v,q)]).length),.bool (fun _=>c1),nat c2,nat c3]),(17,.arr 4 (fun _=>enc tc (tR (l++[(v,q)]))))]⟩) 17 (.le ?_ ?_ rfl) rfl rfl rfl ?_;{cbv;exact okA};{cbv;exact⟨⟨yC rfl (by simp[zA,vI,zS]),lR,lR,lR,trivial⟩,zI (by rw[zSJ,hR,<-gI];rfl),trivial⟩};{cbv;exact okA}}
theorem fN (l:List (Int×Rat))(v:Int)(q:Rat):(pcr l v q).length<=l.length+1:=by grind [pcr]
theorem gR {α:Type}{p:α->List PV}{n:Nat}{a:α}{l:List α}{K:List PV->Prop}(hf:∀ a,yR qW (p a)=true)(hn:∀ a,(p a).length=n)(hK:K (p a)):IdxOk n (fun _=>enc p (a::l)) (fun _=>0) K :=
 xU 0 rfl (by simp) hf hn (fun b hb=>by grind)
theorem bU (t:Int×R)(l):tq (t::l)=(t.1,t.2.q)::tq l:=rfl
theorem zD3 (f g:A)(c:R)(hf:f.sz (2^33))(hg:g.sz (2^33))(hc:c.sz (2^33)):zE 226 [av f,av g,rv c] (fv (f.f.merge g.f c.q)):=by
 refine sF Tryz.f226 ?_;obtain⟨ts,fc⟩:=f;obtain⟨us,gc⟩:=g;have hlt:=hf.t.len;have hlu:=hg.t.len;have hst:=hf.t.sz;have hsu:=hg.t.sz;have hfc:=hf.c;have hgc:=hg.c;have cfc:=hfc.fits (by decide);have cgc:=hgc.fits (by decide);have ccf:=hc.fits (by decide);simp only at hlt hlu hst hsu hfc hgc cfc cgc;have cm:=s199 gc c (hgc.mono (by decide)) (hc.mono (by decide));have ca:=s138 fc (zJ (gc.q*c.q)) (hfc.mono (by decide)) (zU ((y6 cgc ccf).mono (by decide)));rw[z6] at ca;show wp _ _ (dK _ (.agg [tsv (tR (mrg c.q (tq ts) (tq us))),.bool (fun _=>(zJ (fc.q+gc.q*c.q)).neg),nat (zJ (fc.q+gc.q*c.q)).num,nat (zJ (fc.q+gc.q*c.q)).den]) [] []);generalize zJ (fc.q+gc.q*c.q)=W at *
 generalize zJ (gc.q*c.q)=V at *
 generalize hM:mrg c.q (tq ts) (tq us)=M;have hmul:∀ b:Int×R,b∈us->zE 267 [rv b.2,rv c] (rv (zJ (b.2.q*c.q))):=fun b hb=>s199 b.2 c ((hsu b hb).mono (by decide)) (hc.mono (by decide));have hmsz:∀ b:Int×R,b∈us->(zJ (b.2.q*c.q)).sz (2^34):=fun b hb=>zU ((y6 ((hsu b hb).fits (by decide)) ccf).mono (by decide));have hadd:∀ (a b:Int×R),a∈ts->b∈us->zE 266 [rv a.2,rv (zJ (b.2.q*c.q))] (rv (zJ (a.2.q+b.2.q*c.q))):=fun a b ha hb=>by have:=s138 a.2 (zJ (b.2.q*c.q)) ((hst a ha).mono (by decide)) ((hmsz b hb).mono (by decide));rw[z6] at this;omega
 have hasz:∀ (a b:Int×R),a∈ts->b∈us->(zJ (a.2.q+b.2.q*c.q)).sz (2^36):=fun a b ha hb=>zU ((qT ((hst a ha).fits (by decide)) (y6 ((hsu b hb).fits (by decide)) ccf)).mono (by decide));clear hf hg cfc cgc hfc hgc;generalize hcq:c.q=cq at *
 obtain⟨w1,w2,w3⟩:=W;obtain⟨fc1,fc2,fc3⟩:=fc;obtain⟨gc1,gc2,gc3⟩:=gc;obtain⟨c1,c2,c3⟩:=c;cbv;refine jS 9 (by cbv) (by cbv) ?_;cbv;refine dA cm ?_;cbv;refine dA ca ?_;cbv;refine zN 5 (by cbv) ?_;cbv;refine z3 (σ:=List (Int×Rat)×List (Int×R)×List (Int×R)) (fun s=>⟨[(5,.ptr 5 0),(6,.ptr 6 0),(7,.ptr 7 0),(8,tsv s.2.1),(9,tsv s.2.2)],[(5,.box [.bool (fun _=>c1),nat c2,nat c3]),(6,.box [.nil,.ff,.nil,.nil]),(7,.box [.osl 200 4 (fun _=>0) (fun _=>s.1.length),.bool (fun _=>w1),nat w2,nat w3]),(200,.arr 4 (fun _=>enc tc (tR s.1)))]⟩)
  (fun s=>M=s.1++mrg cq (tq s.2.1) (tq s.2.2)/\s.1.length+(s.2.1.length+s.2.2.length)<=ts.length+us.length/\(∀ t,t∈s.2.1->t∈ts)/\(∀ t,t∈s.2.2->t∈us)) (fun s=>s.2.1.length+s.2.2.length)
  ([],ts,us) ⟨hM.symm,by simp,fun _ h=>h,fun _ h=>h⟩
  (.trans (.le (ps':=⟨[(5,.ptr 5 0),(6,.ptr 6 0),(7,.ptr 7 0),(8,tsv ts),(9,tsv us)],[(5,.box [.bool (fun _=>c1),nat c2,nat c3]),(6,.box [.nil,.ff,.nil,.nil]),(7,.box [.nil,.bool (fun _=>w1),nat w2,nat w3])]⟩) ?_ ?_ rfl) (.trans (.adoptB (ps:=⟨[(5,.ptr 5 0),(6,.ptr 6 0),(7,.ptr 7 0),(8,tsv ts),(9,tsv us)],[(5,.box [.bool (fun _=>c1),nat c2,nat c3]),(6,.box [.nil,.ff,.nil,.nil]),(7,.box [.nil,.bool (fun _=>w1),nat w2,nat w3])]⟩) (cs:=[.nil,.bool (fun _=>w1),nat w2,nat w3]) 200 4 7 0 rfl rfl rfl) (.le ?_ ?_ rfl))) ?_
 {cbv;exact okA};{cbv;exact okA};{cbv;exact okA};{cbv;exact⟨okA,okA,⟨yC rfl rfl,lR,lR,lR,trivial⟩,zI rfl,trivial⟩};intro s hs;obtain⟨hI,hL,hA,hB⟩:=hs;generalize s.1=out at *
 generalize s.2.1=aa at *
 generalize s.2.2=bb at *
 cases aa with
 |nil =>
  cases bb with
  |nil =>
   (cbv;refine z9 (by simp[zA]) ?_;cbv;refine yB (by simp[zA]) ?_;cbv;have hM':M=out:=by rw[hI,show tq []=[] from rfl,mrg,uU]);subst hM'
   refine tB _ (.trans (.le (ps':=⟨[(6,.ptr 6 0)],[(6,.box [.osl 200 4 (fun _=>0) (fun _=>M.length),.bool (fun _=>w1),nat w2,nat w3]),(200,.arr 4 (fun _=>enc tc (tR M)))]⟩) ?_ ?_ rfl) (.frz 200 rfl rfl ?_ ?_)) rfl ?_;{cbv;exact okA};{cbv;exact⟨okA,zI rfl,trivial⟩};{exact⟨trivial,trivial⟩};{cbv;exact⟨⟨z8 (by simp[zA,vI]),trivial⟩,trivial⟩};{cbv;exact⟨zR (yS (by simp[zA,vI])),lR,lR,lR,trivial⟩}
  |cons b bs =>
   (have hb:=hB b xM;have cmb:=hmul b hb;have cpb:=zFB out ⟨w1,w2,w3⟩ b.1 (zJ (b.2.q*cq)) ((hmsz b hb).mono (by decide)) oM;rw[z6] at cpb;have hI':M=pcr out b.1 (b.2.q*cq)++mrg cq (tq []) (tq bs):=by rw[hI,bU,show tq []=[] from rfl,mrg,fO]);have hpl:=fN out b.1 (b.2.q*cq)
   generalize pcr out b.1 (b.2.q*cq)=out' at *
   generalize zJ (b.2.q*cq)=X at *
   cbv;refine z9 (by simp[zA]) ?_;cbv;refine w7 (by simp[zA] <;> omega) ?_;cbv;refine zN 20 (by cbv) ?_;cbv;refine z9 (by simp[zA] <;> omega) ?_;cbv;refine z9 (by simp[zA]) ?_;cbv;refine zN 15 (by cbv) ?_;cbv;refine uZ (by simp[zA]) ?_;cbv;refine zN 11 (by cbv) ?_;cbv;refine gR wM wI ?_;cbv;refine gR wM wI ?_;cbv;refine dA cmb ?_;cbv;refine y0 (fun _=>200) (.refl _) rfl okA cpb ⟨⟨rfl,rfl⟩,trivial⟩ rfl rfl rfl rfl rfl rfl rfl rfl ?_;cbv;refine⟨u9 (by decide) (by simp[zA] <;> omega) (by simp[zA]),w6 wI _,?_⟩;cbv;refine⟨(out',[],bs),⟨hI',by simp at hL hpl ⊢;omega,hA,fun t ht=>hB t (xN _ ht)⟩,by simp,.le ?_ ?_ rfl⟩;{cbv;exact⟨lR,lR,lR,lR,zR (by simp[enc,yS]),trivial⟩};{cbv;exact⟨okA,okA,okA,zI rfl,trivial⟩}
 |cons a aa =>
  have ha:=hA a xM;cases bb with
  |nil =>
   (have cp:=zFB out ⟨w1,w2,w3⟩ a.1 a.2 ((hst a ha).mono (by decide)) oM;have hI':M=pcr out a.1 a.2.q++mrg cq (tq aa) (tq []):=by rw[hI,bU,show tq []=[] from rfl,mrg,fO]);have hpl:=fN out a.1 a.2.q
   generalize pcr out a.1 a.2.q=out' at *
   cbv;refine uZ (by simp[zA] <;> omega) ?_;cbv;refine zN 20 (by cbv) ?_;cbv;refine uZ (by simp[zA]) ?_;cbv;refine zN 9 (by cbv) ?_;cbv;refine gR wM wI ?_;cbv;refine gR wM wI ?_;cbv;refine y0 (fun _=>200) (.refl _) rfl okA cp ⟨⟨rfl,rfl⟩,trivial⟩ rfl rfl rfl rfl rfl rfl rfl rfl ?_;cbv;refine⟨u9 (by decide) (by simp[zA] <;> omega) (by simp[zA]),w6 wI _,?_⟩;cbv;refine⟨(out',aa,[]),⟨hI',by simp at hL hpl ⊢;omega,fun t ht=>hA t (xN _ ht),hB⟩,by simp,.le ?_ ?_ rfl⟩;{cbv;exact⟨lR,lR,lR,zR (by simp[enc,yS]),lR,trivial⟩};{cbv;exact⟨okA,okA,okA,zI rfl,trivial⟩}
  |cons b bb =>
   have hb:=hB b xM;cbv;refine uZ (by grind [zA]) ?_;cbv;refine zN 20 (by cbv) ?_;cbv;refine z9 (by grind [zA]) ?_;cbv;refine uZ (by grind [zA]) ?_;cbv;refine gR wM wI ?_;cbv;refine gR wM wI ?_;cbv;refine zG (fun hlt=>?_) (fun hlt=>?_)
   ·(have cp:=zFB out ⟨w1,w2,w3⟩ a.1 a.2 ((hst a ha).mono (by decide)) oM;have hI':M=pcr out a.1 a.2.q++mrg cq (tq aa) (tq (b::bb)):=by rw[hI,bU,bU,mrg,if_pos (show (a.1,a.2.q).1<(b.1,b.2.q).1 from hlt),fO]);have hpl:=fN out a.1 a.2.q
    generalize pcr out a.1 a.2.q=out' at *
    cbv;refine zN 9 (by cbv) ?_;cbv;refine gR wM wI ?_;cbv;refine gR wM wI ?_;cbv;refine y0 (fun _=>200) (.refl _) rfl okA cp ⟨⟨rfl,rfl⟩,trivial⟩ rfl rfl rfl rfl rfl rfl rfl rfl ?_;cbv;refine⟨u9 (by decide) (by simp[zA] <;> omega) (by simp[zA]),w6 wI _,?_⟩;cbv;refine⟨(out',aa,b::bb),⟨hI',by simp at hL hpl ⊢;omega,fun t ht=>hA t (xN _ ht),hB⟩,by simp,.le ?_ ?_ rfl⟩;{cbv;exact⟨lR,lR,lR,zR (by simp[enc,yS]),lR,trivial⟩};{cbv;exact⟨okA,okA,okA,zI rfl,trivial⟩}
   ·cbv;refine zN 15 (by cbv) ?_;cbv;refine z9 (by grind [zA]) ?_;cbv;refine gR wM wI ?_;cbv;refine gR wM wI ?_;cbv;refine zG (fun hlt2=>?_) (fun hlt2=>?_)
    ·(have cmb:=hmul b hb;have cp:=zFB out ⟨w1,w2,w3⟩ b.1 (zJ (b.2.q*cq)) ((hmsz b hb).mono (by decide)) oM;rw[z6] at cp;have hI':M=pcr out b.1 (b.2.q*cq)++mrg cq (tq (a::aa)) (tq bb):=by rw[hI,bU,bU,mrg,if_neg (show ¬(a.1,a.2.q).1<(b.1,b.2.q).1 from hlt),if_pos (show (b.1,b.2.q).1<(a.1,a.2.q).1 from hlt2),fO]);have hpl:=fN out b.1 (b.2.q*cq)
     generalize pcr out b.1 (b.2.q*cq)=out' at *
     generalize zJ (b.2.q*cq)=X at *
     cbv;refine zN 11 (by cbv) ?_;cbv;refine gR wM wI ?_;cbv;refine gR wM wI ?_;cbv;refine dA cmb ?_;cbv;refine y0 (fun _=>200) (.refl _) rfl okA cp ⟨⟨rfl,rfl⟩,trivial⟩ rfl rfl rfl rfl rfl rfl rfl rfl ?_;cbv;refine⟨u9 (by decide) (by simp[zA] <;> omega) (by simp[zA]),w6 wI _,?_⟩;cbv;refine⟨(out',a::aa,bb),⟨hI',by simp at hL hpl ⊢;omega,hA,fun t ht=>hB t (xN _ ht)⟩,by simp,.le ?_ ?_ rfl⟩;{cbv;exact⟨lR,lR,lR,lR,zR (by simp[enc,yS]),trivial⟩};{cbv;exact⟨okA,okA,okA,zI rfl,trivial⟩}
    ·(have cmb:=hmul b hb;have cab:=hadd a b ha hb;have cp:=zFB out ⟨w1,w2,w3⟩ a.1 (zJ (a.2.q+b.2.q*cq)) ((hasz a b ha hb).mono (by decide)) oM;rw[z6] at cp;have hI':M=pcr out a.1 (a.2.q+b.2.q*cq)++mrg cq (tq aa) (tq bb):=by rw[hI,bU,bU,mrg,if_neg (show ¬(a.1,a.2.q).1<(b.1,b.2.q).1 from hlt),if_neg (show ¬(b.1,b.2.q).1<(a.1,a.2.q).1 from hlt2),fO]);have hpl:=fN out a.1 (a.2.q+b.2.q*cq)
     generalize pcr out a.1 (a.2.q+b.2.q*cq)=out' at *
     generalize zJ (a.2.q+b.2.q*cq)=Y at *
     generalize zJ (b.2.q*cq)=X at *
     cbv;refine zN 16 (by cbv) ?_;cbv;refine gR wM wI ?_;cbv;refine gR wM wI ?_;cbv;refine gR wM wI ?_;cbv;refine dA cmb ?_;cbv;refine dA cab ?_;cbv;refine y0 (fun _=>200) (.refl _) rfl okA cp ⟨⟨rfl,rfl⟩,trivial⟩ rfl rfl rfl rfl rfl rfl rfl rfl ?_;cbv;refine zN 5 (by cbv) ?_;cbv;refine⟨u9 (by decide) (by simp[zA] <;> omega) (by simp[zA]),w6 wI _,?_⟩;cbv;refine⟨u9 (by decide) (by simp[zA] <;> omega) (by simp[zA]),w6 wI _,?_⟩;cbv;refine⟨(out',aa,bb),⟨hI',by simp at hL hpl ⊢;omega,fun t ht=>hA t (xN _ ht),fun t ht=>hB t (xN _ ht)⟩,by simp <;> omega,.le ?_ ?_ rfl⟩;{cbv;exact⟨lR,lR,lR,zR (by simp[enc,yS]),zR (by simp[enc,yS]),trivial⟩};{cbv;exact⟨okA,okA,okA,zI rfl,trivial⟩}
theorem oB (z:Int)(h1:-1000<=z)(h2:z<=1000):(zJ (z:Rat)).sz 1:=zU (zEG (by show z.natAbs<4294967296^1;omega) (by decide))
theorem zMZ (f g:A)(hf:f.sz (2^33))(hg:g.sz (2^33)):zE 231 [av f,av g] (fv (f.f.add g.f)):=by
 refine sF Tryz.f231 ?_;have c1:=s104 1 (by decide) (by decide);have cm:=zD3 f g (zJ ((1:Int):Rat)) hf hg ((oB 1 (by decide) (by decide)).mono (by decide));rw[z6] at cm;have e:f.f.merge g.f ((1:Int):Rat)=f.f.add g.f:=rfl;rw[e] at cm;generalize fA (f.f.add g.f)=W at *
 generalize zJ ((1:Int):Rat)=o at *
 obtain⟨ft,f1,f2,f3⟩:=f;obtain⟨gt,g1,g2,g3⟩:=g;obtain⟨wt,w1,w2,w3⟩:=W;cbv;refine zN 4 (by cbv) ?_;cbv;refine dA c1 ?_;cbv;refine dA cm ?_;cbv
 (refine rC ?_;cbv)
 exact okA
theorem aP (f g:A)(hf:f.sz (2^33))(hg:g.sz (2^33)):zE 185 [av f,av g] (fv (f.f.sub g.f)):=by
 refine sF Tryz.f185 ?_;have c1:=s104 (-1) (by decide) (by decide);have cm:=zD3 f g (zJ ((-1:Int):Rat)) hf hg ((oB (-1) (by decide) (by decide)).mono (by decide));rw[z6] at cm;have e:f.f.merge g.f ((-1:Int):Rat)=f.f.sub g.f:=rfl;rw[e] at cm;generalize fA (f.f.sub g.f)=W at *
 generalize zJ ((-1:Int):Rat)=o at *
 obtain⟨ft,f1,f2,f3⟩:=f;obtain⟨gt,g1,g2,g3⟩:=g;obtain⟨wt,w1,w2,w3⟩:=W;cbv;refine zN 4 (by cbv) ?_;cbv;refine dA c1 ?_;cbv;refine dA cm ?_;cbv
 (refine rC ?_;cbv)
 exact okA
theorem tX (f:A)(c:R)(hf:f.sz (2^33))(hc:c.sz (2^33)):zE 186 [av f,rv c] (fv (f.f.scale c.q)):=by
 refine sF Tryz.f186 ?_;have cm:=zD3 ⟨[],⟨false,[],[]⟩⟩ f c ⟨⟨by decide,fun _ h=>absurd h (by simp)⟩,⟨by decide,by decide⟩⟩ hf hc;have e:(A.f ⟨[],⟨false,[],[]⟩⟩).merge f.f c.q=f.f.scale c.q:=rfl;rw[e] at cm;generalize fA (f.f.scale c.q)=W at *
 obtain⟨ft,f1,f2,f3⟩:=f;obtain⟨c1,c2,c3⟩:=c;obtain⟨wt,w1,w2,w3⟩:=W;cbv;refine yP rfl okA cm rfl ?_;cbv
 (refine rC ?_;cbv)
 exact okA
structure Row where
 k:Int
 i:Int
 lo:Int
 hi:Int
deriving DecidableEq
structure Mult where
 row:Row
 c:R
deriving DecidableEq
structure Dec where
 k:Int
 i:Int
 x:R
structure Lem where
 u:Int
 up:Bool
 v:R
 pf:List Mult
structure Grp where
 n:Int
 us:List A
 os:List A
structure Reg where
 lo:List R
 hi:List R
 rows:List A
structure Qry where
 g:Grp
 r:Reg
 goal:A
structure Scp where
 q:Qry
 path:List Dec
 lems:List Lem
abbrev rlv (l:List R):PV:=.sl (fun _=>enc rc l)
abbrev alv (l:List A):PV:=.sl (fun _=>enc ac l)
abbrev rwc (r:Row):List PV:=[.int .i64 (fun _=>r.k),.int .i64 (fun _=>r.i),.int .i64 (fun _=>r.lo),.int .i64 (fun _=>r.hi)]
abbrev rwv (r:Row):PV:=.agg [.int .i64 (fun _=>r.k),.int .i64 (fun _=>r.i),.int .i64 (fun _=>r.lo),.int .i64 (fun _=>r.hi)]
def mc (m:Mult):List PV:=[.int .i64 (fun _=>m.row.k),.int .i64 (fun _=>m.row.i),.int .i64 (fun _=>m.row.lo),.int .i64 (fun _=>m.row.hi),.bool (fun _=>m.c.neg),nat m.c.num,nat m.c.den]
abbrev mlv (l:List Mult):PV:=.sl (fun _=>enc mc l)
def dc (d:Dec):List PV:=[.int .i64 (fun _=>d.k),.int .i64 (fun _=>d.i),.bool (fun _=>d.x.neg),nat d.x.num,nat d.x.den]
abbrev dv (d:Dec):PV:=.agg [.int .i64 (fun _=>d.k),.int .i64 (fun _=>d.i),.bool (fun _=>d.x.neg),nat d.x.num,nat d.x.den]
abbrev dlv (l:List Dec):PV:=.sl (fun _=>enc dc l)
def lc (l:Lem):List PV:=[.int .i64 (fun _=>l.u),.bool (fun _=>l.up),.bool (fun _=>l.v.neg),nat l.v.num,nat l.v.den,mlv l.pf]
abbrev lv' (l:Lem):PV:=.agg [.int .i64 (fun _=>l.u),.bool (fun _=>l.up),.bool (fun _=>l.v.neg),nat l.v.num,nat l.v.den,mlv l.pf]
abbrev llv (l:List Lem):PV:=.sl (fun _=>enc lc l)
abbrev gv (g:Grp):PV:=.agg [.int .i64 (fun _=>g.n),alv g.us,alv g.os]
abbrev rgv (r:Reg):PV:=.agg [rlv r.lo,rlv r.hi,alv r.rows]
abbrev qv (q:Qry):PV:=.agg [.int .i64 (fun _=>q.g.n),alv q.g.us,alv q.g.os,rlv q.r.lo,rlv q.r.hi,alv q.r.rows,tsv q.goal.ts,.bool (fun _=>q.goal.c.neg),nat q.goal.c.num,nat q.goal.c.den]
abbrev sv (s:Scp):PV:=.agg [.int .i64 (fun _=>s.q.g.n),alv s.q.g.us,alv s.q.g.os,rlv s.q.r.lo,rlv s.q.r.hi,alv s.q.r.rows,tsv s.q.goal.ts,.bool (fun _=>s.q.goal.c.neg),nat s.q.goal.c.num,nat s.q.goal.c.den,dlv s.path,llv s.lems]
def sc (s:Scp):List PV:=[.int .i64 (fun _=>s.q.g.n),alv s.q.g.us,alv s.q.g.os,rlv s.q.r.lo,rlv s.q.r.hi,alv s.q.r.rows,tsv s.q.goal.ts,.bool (fun _=>s.q.goal.c.neg),nat s.q.goal.c.num,nat s.q.goal.c.den,dlv s.path,llv s.lems]
theorem vP (a:Mult):yR qW (mc a)=true:=rfl
theorem wA (a:Mult):(mc a).length=7:=rfl
theorem qM (a:Dec):yR qW (dc a)=true:=rfl
theorem jH (a:Dec):(dc a).length=5:=rfl
theorem xX (a:Lem):yR qW (lc a)=true:=rfl
theorem wJ (a:Lem):(lc a).length=6:=rfl
structure Asz (k:Nat) (l:List A):Prop where
 len:l.length<2^38
 sz:∀ a,a∈l->a.sz k
structure Rsz (k:Nat) (l:List R):Prop where
 len:l.length<2^38
 sz:∀ a,a∈l->a.sz k
structure Msz (k:Nat) (l:List Mult):Prop where
 len:l.length<2^38
 sz:∀ a,a∈l->a.c.sz k
structure Dsz (k:Nat) (l:List Dec):Prop where
 len:l.length<2^38
 sz:∀ a,a∈l->a.x.sz k
structure Lsz (k:Nat) (l:List Lem):Prop where
 len:l.length<2^38
 sz:∀ a,a∈l->a.v.sz k
 pf:∀ a,a∈l->Msz k a.pf
structure Grp.sz (g:Grp) (k:Nat):Prop where
 us:Asz k g.us
 os:Asz k g.os
structure Reg.sz (r:Reg) (k:Nat):Prop where
 lo:Rsz k r.lo
 hi:Rsz k r.hi
 rows:Asz k r.rows
structure Qry.sz (q:Qry) (k:Nat):Prop where
 g:q.g.sz k
 r:q.r.sz k
 goal:q.goal.sz k
structure Scp.sz (s:Scp) (k:Nat):Prop where
 q:s.q.sz k
 path:Dsz k s.path
 lems:Lsz k s.lems
theorem Asz.mono {k m:Nat}{l}(h:Asz k l)(hm:k<=m):Asz m l:=⟨h.len,fun a ha=>(h.sz a ha).mono hm⟩
theorem Rsz.mono {k m:Nat}{l}(h:Rsz k l)(hm:k<=m):Rsz m l:=⟨h.len,fun a ha=>(h.sz a ha).mono hm⟩
theorem Msz.mono {k m:Nat}{l}(h:Msz k l)(hm:k<=m):Msz m l:=⟨h.len,fun a ha=>(h.sz a ha).mono hm⟩
theorem Dsz.mono {k m:Nat}{l}(h:Dsz k l)(hm:k<=m):Dsz m l:=⟨h.len,fun a ha=>(h.sz a ha).mono hm⟩
theorem Lsz.mono {k m:Nat}{l}(h:Lsz k l)(hm:k<=m):Lsz m l:=⟨h.len,fun a ha=>(h.sz a ha).mono hm,fun a ha=>(h.pf a ha).mono hm⟩
theorem Grp.sz.mono {k m:Nat}{g:Grp}(h:g.sz k)(hm:k<=m):g.sz m:=⟨h.us.mono hm,h.os.mono hm⟩
theorem Reg.sz.mono {k m:Nat}{g:Reg}(h:g.sz k)(hm:k<=m):g.sz m:=⟨h.lo.mono hm,h.hi.mono hm,h.rows.mono hm⟩
theorem Qry.sz.mono {k m:Nat}{g:Qry}(h:g.sz k)(hm:k<=m):g.sz m:=⟨h.g.mono hm,h.r.mono hm,h.goal.mono hm⟩
theorem Scp.sz.mono {k m:Nat}{g:Scp}(h:g.sz k)(hm:k<=m):g.sz m:=⟨h.q.mono hm,h.path.mono hm,h.lems.mono hm⟩
def vU:Int->List A->Bool
 |_,[]=>true| k,f::r=>f.valid k&&vU (k+1) r
def Grp.vars (g:Grp):Int:=g.n+g.us.length
def Grp.valid (g:Grp):Bool:=decide (1<=g.n/\g.n<=256/\g.us.length<=1024/\1<=g.os.length/\g.os.length<=256)&&vU g.n g.us&&g.os.all (A.valid g.vars)
def vB:List R->List R->Bool
 |l::ls,h::hs=>l.ok&&h.ok&&decide (uD l.q h.q<=0)&&vB ls hs| _,_=>true
def Reg.valid (n:Int) (r:Reg):Bool:=decide (1<=n/\n<=256/\(r.lo.length:Int)=n/\(r.hi.length:Int)=n/\r.rows.length<=256)&&vB r.lo r.hi&&r.rows.all (A.valid n)
def Qry.valid (q:Qry):Bool:=q.g.valid&&q.r.valid q.g.n&&q.goal.valid q.g.vars
def Dec.fits (q:Qry) (d:Dec):Bool :=
 if d.k=1\/d.k=2 then decide (0<=d.i/\d.i<q.g.us.length)&&decide (d.x=⟨false,[],[]⟩)
 else if d.k=3\/d.k=4 then decide (0<=d.i/\d.i<q.g.n)&&d.x.ok
 else false
def uP {α:Type} (P:α->Bool):List α->Int
 |[]=>-1| a::r=>if P a then 0 else if uP P r<0 then -1 else uP P r+1
theorem d7 {α:Type}(P:α->Bool):∀ l:List α,-1<=uP P l
 |[]=>by simp[uP]| a::r=>by grind [uP]
theorem zKC {α:Type}(P:α->Bool):∀ l:List α,0<=uP P l↔l.any P=true
 |[]=>by simp[uP]| a::r=>by have ih:=zKC P r;rw[List.any_cons,alT1,<-ih];rw[show uP P (a::r)=if P a then 0 else if uP P r<0 then -1 else uP P r+1 from rfl];grind
theorem zKD {α:Type}(P:α->Bool)(l:List α):decide (0<=uP P l)=l.any P:=by rw[bQ,decide_eq_true_eq,zKC]
theorem les_refl:∀ a:PV,les a a
 |.agg cs=>allLe_refl1 cs| .tup cs=>allLe_refl1 cs| .fn f cs=>⟨nqb_self f,allLe_refl1 cs⟩| .int k n=>lR| .tt=>lR| .ff=>lR| .bool b=>lR| .nbool b=>lR| .str s=>lR| .nil=>lR| .sl els=>lR| .ptr n o=>lR| .aptr n s i o=>lR| .dptr cs o=>lR| .osl n s o l=>lR| .nilf=>lR| .nilp=>lR| .mpv n=>lR| .emp=>lR| .any=>lR
where
 les1_refl:∀ a:PV,les1 a a
  |.agg cs=>allLeS_refl cs| .tup cs=>allLeS_refl cs| .fn f cs=>lR| .int k n=>lR| .tt=>lR| .ff=>lR| .bool b=>lR| .nbool b=>lR| .str s=>lR| .nil=>lR| .sl els=>lR| .ptr n o=>lR| .aptr n s i o=>lR| .dptr cs o=>lR| .osl n s o l=>lR| .nilf=>lR| .nilp=>lR| .mpv n=>lR| .emp=>lR| .any=>lR
 allLeS_refl:∀ l:List PV,gD LeS l l
  |[]=>trivial| a::r=>⟨mL a,allLeS_refl r⟩
 allLe_refl1:∀ l:List PV,gD les1 l l
  |[]=>trivial| a::r=>⟨les1_refl a,allLe_refl1 r⟩
theorem nT:∀ l:List PV,gD les l l
 |[]=>trivial| a::r=>⟨les_refl a,nT r⟩
theorem dP (l:List PV):gD les1 l l:=les_refl.allLe_refl1 l
def selT (T:List (Nat×PV)):List Nat->List (Nat×PV)
 |[]=>[]| t::r=>(t,zB T t)::selT T r
def selO (O:List (Nat×Obj')):List Nat->List (Nat×Obj')
 |[]=>[]
 |n::r=>(match yG O n with
  |some o=>(n,o)::selO O r| none=>selO O r)
def ndN:List Nat->Bool
 |[]=>true| n::r=>!(yE n r)&&ndN r
theorem zKF:∀ (hs:List (PV×(Unit->Nat))),hLe hs hs
 |[]=>trivial| (v,k)::r=>⟨⟨lR,lR⟩,zKF r⟩
theorem zLR:∀ o:Obj',zHG o o
 |.mat s r hs=>⟨nqb_self s,⟨rfl⟩,zKF hs⟩| .mp t k=>⟨nqb_self t,⟨rfl⟩⟩| .box cs=>nT cs| .arr s e=>⟨nqb_self s,⟨rfl⟩⟩| .log s e=>⟨nqb_self s,⟨rfl⟩⟩| .lent s e=>⟨nqb_self s,⟨rfl⟩⟩
theorem zOK (T:List (Nat×PV)):∀ L,leT T (selT T L)
 |[]=>trivial| t::r=>⟨les_refl _,zOK T r⟩
theorem zH0 (O:List (Nat×Obj')):∀ M,leO O (selO O M)
 |[]=>trivial| n::r=>by
  unfold selO;cases h:yG O n with
  |none=>exact zH0 O r| some o =>
   refine⟨?_,zH0 O r⟩;rw[h];exact zLR o
theorem zEF (O:List (Nat×Obj'))(m:Nat):∀ M,yE m M=false->hasN m (selO O M)=false
 |[],_=>rfl| n::r,h=>by
  simp only[yE,Bool.or_eq_false_iff] at h;unfold selO;cases yG O n with
  |none=>exact zEF O m r h.2| some o =>
   simp only[hasN,Bool.or_eq_false_iff];refine⟨?_,zEF O m r h.2⟩;grind
theorem zHY (O:List (Nat×Obj')):∀ M,ndN M=true->ndO (selO O M)=true
 |[],_=>rfl| n::r,h=>by
  simp only[ndN,yT,zHF] at h;unfold selO;cases yG O n with
  |none=>exact zHY O r h.2| some o =>
   simp only[ndO,yT,zHF];exact⟨zEF O n r h.1,zHY O r h.2⟩
theorem Wk.sel (ps:PS)(L M:List Nat)(h:ndN M=true):Wk ps ⟨selT ps.tmps L,selO ps.objs M⟩:=.le (zOK _ _) (zH0 _ _) (zHY _ _ h)
theorem tE {g as_ dst ps K f caps args' r}(L M:List Nat)(hM:ndN M=true)(h1:ev (zB (selT ps.tmps L)) g=.fn f caps)(h2:gD les (evs (ev (zB (selT ps.tmps L))) as_++caps) args')(h3:zE f args' r)(h5:nmIn [] r=true) (h4:K (put ⟨selT ps.tmps L,selO ps.objs M⟩ dst r)):CallOk g as_ dst ps K:=kQ (Wk.sel ps L M hM) h1 h2 h3 h5 h4
theorem zEK {ops:List Oper}{ps:PS}{K:PS->Prop}(k:Nat)(L M:List Nat)(hM:ndN M=true)(hd:fW ops k=true)(h:pI true ops (ops.take k) ⟨selT ps.tmps L,selO ps.objs M⟩ (fun ps''=>qP ops (ops.drop k) ps'' K)):DrawK ops ps K :=
 .of k _ (Wk.sel ps L M hM) hd h
theorem zEL {ops:List Oper}{ps:PS}{K:PS->Prop}(k:Nat)(L M:List Nat)(hM:ndN M=true)(hd:fW ops k=true)(hm:(ndO (yO (ops.take k))&&mkIn ⟨selT ps.tmps L,selO ps.objs M⟩ (yO (ops.take k)))=true) (h:dZ ops (ops.take k) ⟨selT ps.tmps L,selO ps.objs M⟩ (fun ps''=>zE2 ps''.tmps (yO (ops.take k))=true/\qP ops (ops.drop k) ⟨ps''.tmps,ps''.objs++yO (ops.take k)⟩ K)):DrawK ops ps K :=
 .mk k _ (Wk.sel ps L M hM) hd hm h
theorem yAH (P:A->Bool)(l:List A)(hl:l.length<2^40)(g:FuncId)(caps:List PV)(hg:∀ a,a∈l->zE g (.agg (ac a)::caps) (.bool (fun _=>P a))):zE 245 [.sl (fun _=>enc ac l),.fn g caps] (.int .i64 (fun _=>uP P l)):=by
 refine sF Tryz.f245 ?_;generalize hr:uP P l=r;cbv;refine z3 (σ:=Nat) (fun i=>⟨[(0,.sl (fun _=>enc ac l)),(1,.fn g caps),(7,.int .i64 (fun _=>(l.length:Int))),(8,.int .i64 (fun _=>(i:Int)))],[]⟩)
  (fun i=>i<=l.length/\r=(if uP P (l.drop i)<0 then -1 else uP P (l.drop i)+i)) (fun i=>l.length-i) 0 ⟨om,?_⟩ (.le ?_ ?_ rfl) ?_
 {rw[wC,hr];have:=d7 P l;omega};{cbv;exact⟨lR,(by cases caps <;> first|trivial|grind [les_refl.les1_refl,dP]),zC (by (try dsimp only [zF] at *);rw[zA]),lR,trivial⟩};{cbv};intro i hs;obtain⟨h1,h2⟩:=hs;cbv;refine zG (fun h5=>?_) (fun h5=>?_)
 ·cbv;refine xU (l:=l) i (by (grind) <;> (try simp only[zH] at *) <;> omega) om gK bK (fun t ht=>?_);have hc:=hg t (yA ht);rw[zY ht,show uP P (t::l.drop (i+1))=if P t then 0 else if uP P (l.drop (i+1))<0 then -1 else uP P (l.drop (i+1))+1 from rfl] at h2;have hge:=d7 P (l.drop (i+1));generalize P t=p at *
  generalize hk:uP P (l.drop (i+1))=k at *
  cbv;refine yP rfl (by exact⟨les_refl _,nT caps⟩) hc rfl ?_;cbv;refine zP (fun h6=>?_) (fun h6=>?_)
  ·subst h6;cbv
   (refine rC ?_;cbv)
   exact zC (by (try dsimp only [zF] at *);grind)
  ·subst h6;cbv;refine⟨zD om om,i+1,⟨om,?_⟩,om,.le ?_ ?_ rfl⟩
   ·(try dsimp only [zF] at *)
    grind
   {cbv;exact⟨lR,(by cases caps <;> first|trivial|grind [les_refl.les1_refl,dP]),lR,zC om,trivial⟩};{cbv}
 ·have:i=l.length:=om;rw[this,w4] at h2;cbv
  (refine rC ?_;cbv)
  exact zC (by rw[h2];simp[uP])
theorem zWV (P:A->Bool)(l:List A)(hl:l.length<2^40)(g:FuncId)(caps:List PV)(hg:∀ a,a∈l->zE g (.agg (ac a)::caps) (.bool (fun _=>P a))):zE 195 [.sl (fun _=>enc ac l),.fn g caps] (.bool (fun _=>l.any P)):=by
 refine sF Tryz.f195 ?_;have hc:=yAH P l hl g caps hg;rw[<-zKD];generalize uP P l=k at *
 cbv;refine yP rfl (by exact⟨lR,⟨nqb_self g,dP caps⟩,trivial⟩) hc rfl ?_;cbv
 (refine rC ?_;cbv)
 exact lR
theorem zTC:Pg.funcs[120]?=some Tryz.f120:=by rw[uV];rfl
theorem yAG (P:Dec->Bool)(l:List Dec)(hl:l.length<2^40)(g:FuncId)(caps:List PV)(hg:∀ a,a∈l->zE g (.agg (dc a)::caps) (.bool (fun _=>P a))):zE 120 [.sl (fun _=>enc dc l),.fn g caps] (.int .i64 (fun _=>uP P l)):=by
 refine cH zTC rfl rfl rfl rfl rfl ?_;generalize hr:uP P l=r;cbv;refine z3 (σ:=Nat) (fun i=>⟨[(0,.sl (fun _=>enc dc l)),(1,.fn g caps),(7,.int .i64 (fun _=>(l.length:Int))),(8,.int .i64 (fun _=>(i:Int)))],[]⟩)
  (fun i=>i<=l.length/\r=(if uP P (l.drop i)<0 then -1 else uP P (l.drop i)+i)) (fun i=>l.length-i) 0 ⟨om,?_⟩ (.le ?_ ?_ rfl) ?_
 {rw[wC,hr];have:=d7 P l;omega};{cbv;exact⟨lR,(by cases caps <;> first|trivial|grind [les_refl.les1_refl,dP]),zC (by (try dsimp only [zF] at *);rw[zA]),lR,trivial⟩};{cbv};intro i hs;obtain⟨h1,h2⟩:=hs;cbv;refine zG (fun h5=>?_) (fun h5=>?_)
 ·cbv;refine xU (l:=l) i (by (grind) <;> (try simp only[zH] at *) <;> omega) om qM jH (fun t ht=>?_);have hc:=hg t (yA ht);rw[zY ht,show uP P (t::l.drop (i+1))=if P t then 0 else if uP P (l.drop (i+1))<0 then -1 else uP P (l.drop (i+1))+1 from rfl] at h2;have hge:=d7 P (l.drop (i+1));generalize P t=p at *
  generalize hk:uP P (l.drop (i+1))=k at *
  cbv;refine yP rfl (by exact⟨les_refl _,nT caps⟩) hc rfl ?_;cbv;refine zP (fun h6=>?_) (fun h6=>?_)
  ·subst h6;cbv
   (refine rC ?_;cbv)
   exact zC (by (try dsimp only [zF] at *);grind)
  ·subst h6;cbv;refine⟨zD om om,i+1,⟨om,?_⟩,om,.le ?_ ?_ rfl⟩
   ·(try dsimp only [zF] at *)
    grind
   {cbv;exact⟨lR,(by cases caps <;> first|trivial|grind [les_refl.les1_refl,dP]),lR,zC om,trivial⟩};{cbv}
 ·have:i=l.length:=om;rw[this,w4] at h2;cbv
  (refine rC ?_;cbv)
  exact zC (by rw[h2];simp[uP])
theorem zWU (P:Dec->Bool)(l:List Dec)(hl:l.length<2^40)(g:FuncId)(caps:List PV)(hg:∀ a,a∈l->zE g (.agg (dc a)::caps) (.bool (fun _=>P a))):zE 135 [.sl (fun _=>enc dc l),.fn g caps] (.bool (fun _=>l.any P)):=by
 refine sF Tryz.f135 ?_;have hc:=yAG P l hl g caps hg;rw[<-zKD];generalize uP P l=k at *
 cbv;refine yP rfl (by exact⟨lR,⟨nqb_self g,dP caps⟩,trivial⟩) hc rfl ?_;cbv
 (refine rC ?_;cbv)
 exact lR
theorem sGrC (a:A)(vars:Int)(ha:a.sz (2^36)):zE 242 [.agg (ac a),.dptr [.int .i64 (fun _=>vars)] 0] (.bool (fun _=>!a.valid vars)):=by
 refine sF Tryz.f242 ?_;have c1:=tW a vars ha;generalize a.valid vars=r at *
 obtain⟨ts,c1',c2,c3⟩:=a;cbv;refine cA c1 ?_;cbv
 (refine rC ?_;cbv)
 exact vY rfl
theorem zID {α:Type}(p:α->Bool)(l:List α):l.all p=!(l.any fun a=>!(p a)):=by grind
theorem sGrV (l:List A)(vars:Int)(hl:Asz (2^36) l):zE 193 [alv l,.int .i64 (fun _=>vars)] (.bool (fun _=>l.all (A.valid vars))):=by
 refine sF Tryz.f193 ?_;have c1:=zWV (fun a=>!(a.valid vars)) l (bC hl.len (by decide)) 242 [.dptr [.int .i64 (fun _=>vars)] 0] (fun a ha=>sGrC a vars (hl.sz a ha));rw[zID];generalize (l.any fun a=>!(a.valid vars))=r at *
 cbv;refine kQ (.frz 3 rfl rfl (by repeat' first|exact trivial|apply And.intro) (by repeat' first|exact trivial|apply And.intro)) rfl (by exact⟨lR,⟨rfl,lR,trivial⟩,trivial⟩) c1 rfl ?_;cbv
 (refine rC ?_;cbv)
 exact vY rfl
theorem zNL (k:Int)(f:A)(r:List A):vU k (f::r)=(f.valid k&&vU (k+1) r):=rfl
theorem zQ6 (g:Grp)(hg:g.sz (2^36)):zE 149 [gv g] (.bool (fun _=>g.valid)):=by
 refine sF Tryz.f149 ?_;obtain⟨n,us,os⟩:=g;have hu:=hg.us.sz;have hul:=hg.us.len;have hol:=hg.os.len;have hos:=fun vars=>sGrV os vars hg.os;clear hg;simp only at hu hul hol hos;generalize hr:Grp.valid ⟨n,us,os⟩=r;have hr0:r=(decide (1<=n/\n<=256/\us.length<=1024/\1<=os.length/\os.length<=256)&&vU n us&&os.all (A.valid (n+us.length))):=hr.symm;clear hr;have hno:¬(1<=n/\n<=256/\us.length<=1024/\1<=os.length/\os.length<=256)->r=false:=fun h=>by grind
 cbv;refine zQ (fun e1=>?_) (fun e1=>?_)
 ·cbv
  (refine rC ?_;cbv)
  exact zM (hno om)
 cbv;refine zQ (fun e2=>?_) (fun e2=>?_)
 ·cbv
  (refine rC ?_;cbv)
  exact zM (hno om)
 cbv;refine zQ (fun e3=>?_) (fun e3=>?_)
 ·cbv
  (refine rC ?_;cbv)
  exact zM (hno (by simp only[zA] at e3;(try dsimp only [zF] at *);omega))
 cbv;refine zQ (fun e4=>?_) (fun e4=>?_)
 ·cbv
  (refine rC ?_;cbv)
  exact zM (hno (by simp only[zA] at e4;(try dsimp only [zF] at *);omega))
 cbv;refine zG (fun e5=>?_) (fun e5=>?_)
 ·cbv
  (refine rC ?_;cbv)
  exact zM (hno (by simp only[zA] at e5;(try dsimp only [zF] at *);omega))
 rw[zA] at e3 e4 e5
 (try dsimp only [zF] at *)
 rw[decide_eq_true oM,yU] at hr0;clear hno;cbv;refine z3 (σ:=Nat) (fun i=>⟨[(1,.ptr 1 0),(32,alv us),(33,.int .i64 (fun _=>(us.length:Int))),(34,.int .i64 (fun _=>(i:Int)))],[(1,.box [.int .i64 (fun _=>n),alv us,alv os])]⟩)
  (fun i=>i<=us.length/\r=(vU (n+i) (us.drop i)&&os.all (A.valid (n+us.length)))) (fun i=>us.length-i) 0 ⟨om,?_⟩ (.le ?_ ?_ rfl) ?_
 {grind};{cbv;exact⟨lR,lR,zC (by (try dsimp only [zF] at *);rw[zA]),lR,trivial⟩};{cbv;exact okA};clear hr0;intro i hs;obtain⟨h1,h2⟩:=hs;cbv;refine zG (fun h5=>?_) (fun h5=>?_)
 ·(cbv;refine xU (l:=us) i (by (grind) <;> (try simp only[zH] at *) <;> omega) om gK bK (fun t ht=>?_);have cv:=tW t (n+i) (hu t (yA ht));rw[zY ht,zNL] at h2;have e:n+(i:Int)+1=n+((i+1:Nat):Int):=by omega);rw[e] at h2
  generalize hv:t.valid (n+i)=v at *
  obtain⟨t1,t2,t3,t4⟩:=t;cbv;refine⟨zD om om,?_⟩;cbv;refine cA cv ?_;cbv;refine zP (fun h6=>?_) (fun h6=>?_);{subst h6;rw[yU] at h2;cbv;refine⟨zD om om,i+1,⟨om,h2⟩,om,.le ?_ ?_ rfl⟩;{cbv;exact⟨lR,lR,lR,zC om,trivial⟩};{cbv;exact okA}}
  ·subst h6;cbv
   (refine rC ?_;cbv)
   exact zM (by grind)
 ·have hi:i=us.length:=om;rw[hi,w4] at h2;have h2':r=os.all (A.valid (n+us.length)):=h2;have cv:=hos (n+us.length);rw[<-h2'] at cv;clear h2 h2' hos;cbv;refine⟨zD (by rw[zA];(try dsimp only [zF] at *);omega) (by rw[zA];(try dsimp only [zF] at *);omega),?_⟩;cbv;refine yP rfl (by exact⟨lR,zC (by rw[zA]),trivial⟩) cv rfl ?_;cbv
  (refine rC ?_;cbv)
  exact lR
theorem sRgC (a:A)(vars:Int)(ha:a.sz (2^36)):zE 196 [.agg (ac a),.dptr [.int .i64 (fun _=>vars)] 0] (.bool (fun _=>!a.valid vars)):=by
 refine sF Tryz.f196 ?_;have c1:=tW a vars ha;generalize a.valid vars=r at *
 obtain⟨ts,c1',c2,c3⟩:=a;cbv;refine cA c1 ?_;cbv
 (refine rC ?_;cbv)
 exact vY rfl
theorem zNM (l:R)(ls)(h:R)(hs):vB (l::ls) (h::hs)=(l.ok&&h.ok&&decide (uD l.q h.q<=0)&&vB ls hs):=rfl
theorem zT {α:Type}{l:List α}{i:Nat}(h:i<l.length):∃ a,l[i]?=some a:=⟨l[i],by simp[h]⟩
theorem zQ3 (g:Reg)(n:Int)(hg:g.sz (2^34)):zE 150 [rgv g,.int .i64 (fun _=>n)] (.bool (fun _=>g.valid n)):=by
 refine sF Tryz.f150 ?_;obtain⟨lo,hi,rows⟩:=g;have hlo:=hg.lo.sz;have hhi:=hg.hi.sz;have hlol:=hg.lo.len;have hhil:=hg.hi.len;have hrl:=hg.rows.len;have hrs:=hg.rows.sz;simp only at hlo hhi hlol hhil hrl hrs;have cr:=zWV (fun a=>!(a.valid n)) rows (bC hrl (by decide)) 196 [.dptr [.int .i64 (fun _=>n)] 0] (fun a ha=>sRgC a n ((hrs a ha).mono (by decide)));generalize hr:Reg.valid n ⟨lo,hi,rows⟩=r;have hr0:r=(decide (1<=n/\n<=256/\(lo.length:Int)=n/\(hi.length:Int)=n/\rows.length<=256)&&vB lo hi&&rows.all (A.valid n)):=hr.symm;rw[zID] at hr0;generalize (rows.any fun a=>!(a.valid n))=bad at *
 clear hr hrs hg;have hno:¬(1<=n/\n<=256/\(lo.length:Int)=n/\(hi.length:Int)=n/\rows.length<=256)->r=false:=fun h=>by grind
 cbv;refine zQ (fun e1=>?_) (fun e1=>?_)
 ·cbv
  (refine rC ?_;cbv)
  exact zM (hno om)
 cbv;refine zQ (fun e2=>?_) (fun e2=>?_)
 ·cbv
  (refine rC ?_;cbv)
  exact zM (hno om)
 cbv;refine zQ (fun e3=>?_) (fun e3=>?_)
 ·cbv;refine zQ (fun e4=>?_) (fun e4=>?_)
  ·cbv;refine zG (fun e5=>?_) (fun e5=>?_)
   ·cbv
    (refine rC ?_;cbv)
    exact zM (hno (by simp only[zA] at e5;(try dsimp only [zF] at *);omega))
   rw[zA] at e3 e4 e5
   (try dsimp only [zF] at *)
   rw[decide_eq_true oM,yU] at hr0;clear hno;cbv;refine z3 (σ:=Nat) (fun i=>⟨[(2,.ptr 2 0),(3,.ptr 3 0),(34,rlv lo),(35,.int .i64 (fun _=>(lo.length:Int))),(36,.int .i64 (fun _=>(i:Int)))],[(2,.box [rlv lo,rlv hi,alv rows]),(3,.box [.int .i64 (fun _=>n)])]⟩)
    (fun i=>i<=lo.length/\r=(vB (lo.drop i) (hi.drop i) && !bad)) (fun i=>lo.length-i) 0 ⟨om,hr0⟩ (.le ?_ ?_ rfl) ?_
   {cbv;exact⟨lR,lR,lR,zC (by (try dsimp only [zF] at *);rw[zA]),lR,trivial⟩};{cbv;exact okA};clear hr0;intro i hs;obtain⟨h1,h2⟩:=hs;cbv;refine zG (fun h5=>?_) (fun h5=>?_)
   ·cbv;refine xU (l:=lo) i (by (grind) <;> (try simp only[zH] at *) <;> omega) om gG bG (fun l hl=>?_);obtain⟨h,hh⟩:∃ h,hi[i]?=some h:=zT om;rw[zY hl,zY hh,zNM] at h2;have hls:=hlo l (yA hl);have hhs:=hhi h (yA hh);have cl:=s103 l (hls.mono (by decide));have ch:=s103 h (hhs.mono (by decide));have cc:=s165 l h hls hhs;generalize uD l.q h.q=cq at *
    generalize l.ok=o1 at *
    generalize h.ok=o2 at *
    obtain⟨l1,l2,l3⟩:=l;cbv;refine zN 22 (by cbv) ?_;cbv;refine dA cl ?_;cbv;refine z7 (fun e6=>?_) (fun e6=>?_)
    ·(subst e6;cbv;refine xU (l:=hi) i (by (grind) <;> (try simp only[zH] at *) <;> omega) om gG bG (fun h' hh'=>?_);obtain rfl:h'=h:=by grind);obtain⟨k1,k2,k3⟩:=h'
     cbv;refine dA ch ?_;cbv;refine z7 (fun e7=>?_) (fun e7=>?_)
     ·(subst e7;cbv;refine xU (l:=hi) i (by (grind) <;> (try simp only[zH] at *) <;> omega) om gG bG (fun h'' hh''=>?_);obtain rfl:h''=⟨k1,k2,k3⟩:=by grind);cbv
      refine dA cc ?_;cbv;refine zG (fun e8=>?_) (fun e8=>?_)
      ·cbv
       (refine rC ?_;cbv)
       exact zM (by grind)
      {rw[decide_eq_true oM] at h2;cbv;refine⟨zD om om,i+1,⟨om,h2⟩,om,.le ?_ ?_ rfl⟩;{cbv;exact⟨lR,lR,lR,lR,zC om,trivial⟩};{cbv;exact okA}}
     ·subst e7;cbv
      (refine rC ?_;cbv)
      exact zM (by grind)
    ·subst e6;cbv
     (refine rC ?_;cbv)
     exact zM (by grind)
   ·(have hi':i=lo.length:=om;rw[hi',w4] at h2;have h2':r=!bad:=by rw[h2];cases hi.drop lo.length <;> rfl);clear h2
    cbv;refine kQ (.frz 3 rfl rfl (by repeat' first|exact trivial|apply And.intro) (by repeat' first|exact trivial|apply And.intro)) rfl (by exact⟨lR,⟨rfl,lR,trivial⟩,trivial⟩) cr rfl ?_;cbv
    (refine rC ?_;cbv)
    exact vY h2'
  ·cbv
   (refine rC ?_;cbv)
   exact zM (hno (by simp only[zA] at e4;(try dsimp only [zF] at *);omega))
 ·cbv
  (refine rC ?_;cbv)
  exact zM (hno (by simp only[zA] at e3;(try dsimp only [zF] at *);omega))
theorem tU (q:Qry)(hq:q.sz (2^34)):zE 80 [qv q] (.bool (fun _=>q.valid)):=by
 refine sF Tryz.f80 ?_;have cg:=zQ6 q.g (hq.g.mono (by decide));have crg:=zQ3 q.r q.g.n hq.r;have cl:=tW q.goal q.g.vars (hq.goal.mono (by decide));have hul:=hq.g.us.len;have hr:q.valid=(q.g.valid&&q.r.valid q.g.n&&q.goal.valid q.g.vars):=rfl;have hn:q.g.valid=true->1<=q.g.n/\q.g.n<=256:=fun h=>by unfold Grp.valid at h;grind
 rw[hr];clear hr hq;obtain⟨⟨n,us,os⟩,⟨lo,hi,rows⟩,⟨ts,c1,c2,c3⟩⟩:=q;simp only at hn hul cg crg cl ⊢;have hv:Grp.vars ⟨n,us,os⟩=n+us.length:=rfl;rw[hv] at cl ⊢;generalize Grp.valid ⟨n,us,os⟩=b1 at *
 generalize Reg.valid n ⟨lo,hi,rows⟩=b2 at *
 generalize hb3:A.valid (n+us.length) ⟨ts,c1,c2,c3⟩=b3 at *
 cbv;refine cA cg ?_;cbv;refine z7 (fun e6=>?_) (fun e6=>?_)
 ·subst e6;have hn':=hn rfl;cbv;refine cA crg ?_;cbv;refine z7 (fun e7=>?_) (fun e7=>?_)
  ·subst e7;cbv;refine⟨zD (by rw[zA];(try dsimp only [zF] at *);omega) (by rw[zA];(try dsimp only [zF] at *);omega),?_⟩;refine yP rfl (by exact⟨okA,zC (by rw[zA]),trivial⟩) cl rfl ?_;cbv
   (refine rC ?_;cbv)
   exact zV (by rfl)
  ·subst e7;cbv
   (refine rC ?_;cbv)
   exact zM rfl
 ·subst e6;cbv
  (refine rC ?_;cbv)
  exact zM rfl
end Go.Proofs.YtaeaffgjdcigoaaGreat
