/- A part of the proof: LnB, DtA, HfA, VaA. -/
import Derived.Test.YtaeaffgjdcigoaaGreatD20
set_option linter.all false
namespace Go.Proofs.YtaeaffgjdcigoaaGreat
open Go
set_option maxRecDepth 100000
set_option maxHeartbeats 1000000
def tJ {rs:List ResultVar}{r:PV}{ps ps':PS}{n:Nat}{o:Obj'}(m:Nat)(hw:Wk ps ps')(h3:lv r=true)(h4:yO ps'.objs m=some (xZ (ren (λ_=>m)) o))(h5:dZ o=true) (h:match fS ps' rs with
  |some l=>les (mC l) (ren (λ_=>m) r)| none=>False):RetOk rs r [] [(n,o)] ps:=by
 cases h1:fS ps' rs with
 |none=>grind| some l=>rw[h1] at h;exact⟨ps',l,λ_=>m,hw,h1,dF h,h3,⟨⟨h4,h5⟩,trivial⟩,rfl,trivial⟩
def aI {rs:List ResultVar}{r:PV}{ps:PS}(ps':PS)(hw:Wk ps ps')(h3:lv r=true) (h:match fS ps' rs with
  |some l=>les (mC l) (ren id r)| none=>False):RetOk rs r [] [] ps:=by
 cases h1:fS ps' rs with
 |none=>grind| some l=>rw[h1] at h;exact⟨ps',l,id,hw,h1,dF h,h3,trivial,rfl,trivial⟩
def wP {p:Prop}[Decidable p]{A B:Unit->Prop}(h:p)(h1:A ()):Br (λ_=>decide p) A B:=zO (λ_=>h1) (λg=>(g h).elim)
def yD {p:Prop}[Decidable p]{A B:Unit->Prop}(h:¬p)(h1:B ()):Br (λ_=>decide p) A B:=zO (λg=>(h g).elim) (λ_=>h1)
def wZ {p:Prop}[Decidable p]{A B:(Exit->PS->Prop)->Prop}{Q:Exit->PS->Prop}(h:p)(h1:A Q):Cut (λ_=>decide p) A B Q:=zE (λ_=>h1) (λg=>(g h).elim)
def yF {p:Prop}[Decidable p]{A B:(Exit->PS->Prop)->Prop}{Q:Exit->PS->Prop}(h:¬p)(h1:B Q):Cut (λ_=>decide p) A B Q:=zE (λg=>(h g).elim) (λ_=>h1)
def pcr (l:List (Int×Rat)) (v:Int) (q:Rat):List (Int×Rat):=if q=0 then l else l++[(v,q)]
def fD (l:List (Int×Rat))(v:Int)(q:Rat)(r):pcr l v q++r=l++pc v q r:=by grind [pcr,pc]
abbrev avo (n len:Nat) (c:R):PV:=.agg [oV n 4 len,bV c.neg,nat c.num,nat c.den]
theorem w4 (l:List (Int×Rat)):(tR l).length=l.length:=by simp[tR]
def FG (l m:List (Int×Rat)):tR (l++m)=tR l++tR m:=by simp[tR]
def Hd:ty 30=.sli 4 64 [iV 0,.ff,.nil,.nil]:=by cbv
def Y0 (l:List (Int×Rat))(c:R)(v:Int)(x:R)(hx:x.sz (2^36))(hl:l.length<2^39):Sound 268 [avo 100 l.length c,iV v,rv x] [] [(100,aV 4 (enc tc (tR l)))] (avo 100 (pcr l v x.q).length c) [] [(100,aV 4 (enc tc (tR (pcr l v x.q))))]:=by refine sF Tryz.f268 ?_;have cs:=s86 x (by have:=hx.n;omega);have cc:=Ab x hx;have h1:yB x.q≠0->pcr l v x.q=l++[(v,x.q)]:=λh=>if_neg (sgnQ_ne.1 h);have h2:¬yB x.q≠0->pcr l v x.q=l:=λh=>if_pos (by grind [sgnQ_ne]);generalize pcr l v x.q=P at *;generalize hsg:yB x.q=sg at *;generalize hq:x.q=q at *;have hR:tR [(v,q)]=[(v,zI q)]:=rfl;generalize zI q=W at *;obtain⟨x1,x2,x3⟩:=x;obtain⟨w1,w2,w3⟩:=W;obtain⟨c1,c2,c3⟩:=c;clear hq hsg;cbv;refine cA cs ?_;cbv;refine zE (λh=>?_) (λh=>?_);{have hP:=h2 oM;clear h1 h2;subst hP;cbv;exact tJ 100 (.refl _) rfl rfl rfl (by cbv;exact okA)};{have hP:=h1 oM;clear h1 h2;subst hP;cbv;refine zL 7 (by cbv) ?_;cbv;refine dA cc ?_;cbv;refine wE Hd rfl rfl rfl (by simp only[zA,w4]) rfl ⟨by simp[zS,xD]⟩ (z6 oM (by simp only[zA,w4,zS,cX,tM];omega)) rfl ?_;cbv;refine tJ (ps':=⟨[(6,.ptr 6 0)],[(6,.box [oV 17 4 ((l++[(v,q)]).length),bV c1,nat c2,nat c3]),(17,aV 4 (enc tc (tR (l++[(v,q)]))))]⟩) 17 (.le ?_ ?_ rfl) rfl rfl rfl ?_;{cbv;exact okA};{cbv;exact⟨⟨z4 rfl (by simp[zA,w4,zS]),lR,lR,lR,trivial⟩,zG (by rw[FG,hR,<-qK];rfl),trivial⟩};{cbv;exact okA}}
def fC (l:List (Int×Rat))(v:Int)(q:Rat):(pcr l v q).length<=l.length+1:=by grind [pcr]
def gD {α:Type}{p:α->List PV}{n:Nat}{a:α}{l:List α}{K:List PV->Prop}(hf:∀ a,yT qS (p a)=true)(hn:∀ a,(p a).length=n)(hK:K (p a)):IdxOk n (λ_=>enc p (a::l)) (λ_=>0) K :=
 xM 0 rfl (by simp) hf hn (λb hb=>by grind)
def bF (t:Int×R)(l):tq (t::l)=(t.1,t.2.q)::tq l:=rfl
def Y1 (f g:A)(c:R)(hf:f.sz (2^33))(hg:g.sz (2^33))(hc:c.sz (2^33)):zD 226 [av f,av g,rv c] (fv (f.f.merge g.f c.q)):=by
 refine sF Tryz.f226 ?_;obtain⟨ts,fc⟩:=f;obtain⟨us,gc⟩:=g;have hlt:=hf.t.len;have hlu:=hg.t.len;have hst:=hf.t.sz;have hsu:=hg.t.sz;have hfc:=hf.c;have hgc:=hg.c;have cfc:=hfc.fits (by decide);have cgc:=hgc.fits (by decide);have ccf:=hc.fits (by decide);simp only at hlt hlu hst hsu hfc hgc cfc cgc;have cm:=T5 gc c (hgc.mono (by decide)) (hc.mono (by decide));have ca:=RT fc (zI (gc.q*c.q)) (hfc.mono (by decide)) (zU ((y7 cgc ccf).mono (by decide)));rw[z9] at ca;show wp _ _ (dC _ (.agg [tsv (tR (mrg c.q (tq ts) (tq us))),bV ((zI (fc.q+gc.q*c.q)).neg),nat (zI (fc.q+gc.q*c.q)).num,nat (zI (fc.q+gc.q*c.q)).den]) [] []);generalize zI (fc.q+gc.q*c.q)=W at *;generalize zI (gc.q*c.q)=V at *;generalize hM:mrg c.q (tq ts) (tq us)=M;have hmul:∀ b:Int×R,b∈us->zD 267 [rv b.2,rv c] (rv (zI (b.2.q*c.q))):=λb hb=>T5 b.2 c ((hsu b hb).mono (by decide)) (hc.mono (by decide));have hmsz:∀ b:Int×R,b∈us->(zI (b.2.q*c.q)).sz (2^34):=λb hb=>zU ((y7 ((hsu b hb).fits (by decide)) ccf).mono (by decide));have hadd:∀ (a b:Int×R),a∈ts->b∈us->zD 266 [rv a.2,rv (zI (b.2.q*c.q))] (rv (zI (a.2.q+b.2.q*c.q))):=λa b ha hb=>by have:=RT a.2 (zI (b.2.q*c.q)) ((hst a ha).mono (by decide)) ((hmsz b hb).mono (by decide));rw[z9] at this;omega
 have hasz:∀ (a b:Int×R),a∈ts->b∈us->(zI (a.2.q+b.2.q*c.q)).sz (2^36):=λa b ha hb=>zU ((uX ((hst a ha).fits (by decide)) (y7 ((hsu b hb).fits (by decide)) ccf)).mono (by decide));clear hf hg cfc cgc hfc hgc;generalize hcq:c.q=cq at *;obtain⟨w1,w2,w3⟩:=W;obtain⟨fc1,fc2,fc3⟩:=fc;obtain⟨gc1,gc2,gc3⟩:=gc;obtain⟨c1,c2,c3⟩:=c;cbv;refine uL 9 (by cbv) (by cbv) ?_;cbv;refine dA cm ?_;cbv;refine dA ca ?_;cbv;refine zL 5 (by cbv) ?_;cbv;refine zW (σ:=List (Int×Rat)×List (Int×R)×List (Int×R)) (λs=>⟨[(5,.ptr 5 0),(6,.ptr 6 0),(7,.ptr 7 0),(8,tsv s.2.1),(9,tsv s.2.2)],[(5,.box [bV c1,nat c2,nat c3]),(6,.box [.nil,.ff,.nil,.nil]),(7,.box [oV 200 4 s.1.length,bV w1,nat w2,nat w3]),(200,aV 4 (enc tc (tR s.1)))]⟩)
  (λs=>M=s.1++mrg cq (tq s.2.1) (tq s.2.2)/\s.1.length+(s.2.1.length+s.2.2.length)<=ts.length+us.length/\(∀ t,t∈s.2.1->t∈ts)/\(∀ t,t∈s.2.2->t∈us)) (λs=>s.2.1.length+s.2.2.length)
  ([],ts,us) ⟨hM.symm,by simp,λ_ h=>h,λ_ h=>h⟩
  (.trans (.le (ps':=⟨[(5,.ptr 5 0),(6,.ptr 6 0),(7,.ptr 7 0),(8,tsv ts),(9,tsv us)],[(5,.box [bV c1,nat c2,nat c3]),(6,.box [.nil,.ff,.nil,.nil]),(7,.box [.nil,bV w1,nat w2,nat w3])]⟩) ?_ ?_ rfl) (.trans (.adoptB (ps:=⟨[(5,.ptr 5 0),(6,.ptr 6 0),(7,.ptr 7 0),(8,tsv ts),(9,tsv us)],[(5,.box [bV c1,nat c2,nat c3]),(6,.box [.nil,.ff,.nil,.nil]),(7,.box [.nil,bV w1,nat w2,nat w3])]⟩) (cs:=[.nil,bV w1,nat w2,nat w3]) 200 4 7 0 rfl rfl rfl) (.le ?_ ?_ rfl))) ?_
 {cbv;exact okA};{cbv;exact okA};{cbv;exact okA};{cbv;exact⟨okA,okA,⟨z4 rfl rfl,lR,lR,lR,trivial⟩,zG rfl,trivial⟩};intro s hs;obtain⟨hI,hL,hA,hB⟩:=hs;generalize s.1=out at *;generalize s.2.1=aa at *;generalize s.2.2=bb at *;cases aa with
 |nil =>
  cases bb with
  |nil =>
   (cbv;refine yD (by simp[zA]) ?_;cbv;refine yF (by simp[zA]) ?_;cbv;have hM':M=out:=by rw[hI,show tq []=[] from rfl,mrg,kF]);subst hM'
   refine aI _ (.trans (.le (ps':=⟨[(6,.ptr 6 0)],[(6,.box [oV 200 4 M.length,bV w1,nat w2,nat w3]),(200,aV 4 (enc tc (tR M)))]⟩) ?_ ?_ rfl) (.frz 200 rfl rfl ?_ ?_)) rfl ?_;{cbv;exact okA};{cbv;exact⟨okA,zG rfl,trivial⟩};{exact⟨trivial,trivial⟩};{cbv;exact⟨⟨z5 (by simp[zA,w4]),trivial⟩,trivial⟩};{cbv;exact⟨zR (yW (by simp[zA,w4])),lR,lR,lR,trivial⟩}
  |cons b bs =>
   (have hb:=hB b wB;have cmb:=hmul b hb;have cpb:=Y0 out ⟨w1,w2,w3⟩ b.1 (zI (b.2.q*cq)) ((hmsz b hb).mono (by decide)) oM;rw[z9] at cpb;have hI':M=pcr out b.1 (b.2.q*cq)++mrg cq (tq []) (tq bs):=by rw[hI,bF,show tq []=[] from rfl,mrg,fD]);have hpl:=fC out b.1 (b.2.q*cq)
   generalize pcr out b.1 (b.2.q*cq)=out' at *;generalize zI (b.2.q*cq)=X at *;cbv;refine yD (by simp[zA]) ?_;cbv;refine wZ (by simp[zA] <;> omega) ?_;cbv;refine zL 20 (by cbv) ?_;cbv;refine yD (by simp[zA] <;> omega) ?_;cbv;refine yD (by simp[zA]) ?_;cbv;refine zL 15 (by cbv) ?_;cbv;refine wP (by simp[zA]) ?_;cbv;refine zL 11 (by cbv) ?_;cbv;refine gD wI wG ?_;cbv;refine gD wI wG ?_;cbv;refine dA cmb ?_;cbv;refine kA (λ_=>200) cpb ?_;cbv;refine⟨vX (by decide) (by simp[zA] <;> omega) (by simp[zA]),wD wG _,?_⟩;cbv;refine⟨(out',[],bs),⟨hI',by simp at hL hpl ⊢;omega,hA,λt ht=>hB t (x9 _ ht)⟩,by simp,.le ?_ ?_ rfl⟩;{cbv;exact⟨lR,lR,lR,lR,zR (by simp[enc,yW]),trivial⟩};{cbv;exact⟨okA,okA,okA,zG rfl,trivial⟩}
 |cons a aa =>
  have ha:=hA a wB;cases bb with
  |nil =>
   (have cp:=Y0 out ⟨w1,w2,w3⟩ a.1 a.2 ((hst a ha).mono (by decide)) oM;have hI':M=pcr out a.1 a.2.q++mrg cq (tq aa) (tq []):=by rw[hI,bF,show tq []=[] from rfl,mrg,fD]);have hpl:=fC out a.1 a.2.q
   generalize pcr out a.1 a.2.q=out' at *;cbv;refine wP (by simp[zA] <;> omega) ?_;cbv;refine zL 20 (by cbv) ?_;cbv;refine wP (by simp[zA]) ?_;cbv;refine zL 9 (by cbv) ?_;cbv;refine gD wI wG ?_;cbv;refine gD wI wG ?_;cbv;refine kA (λ_=>200) cp ?_;cbv;refine⟨vX (by decide) (by simp[zA] <;> omega) (by simp[zA]),wD wG _,?_⟩;cbv;refine⟨(out',aa,[]),⟨hI',by simp at hL hpl ⊢;omega,λt ht=>hA t (x9 _ ht),hB⟩,by simp,.le ?_ ?_ rfl⟩;{cbv;exact⟨lR,lR,lR,zR (by simp[enc,yW]),lR,trivial⟩};{cbv;exact⟨okA,okA,okA,zG rfl,trivial⟩}
  |cons b bb =>
   have hb:=hB b wB;cbv;refine wP (by grind [zA]) ?_;cbv;refine zL 20 (by cbv) ?_;cbv;refine yD (by grind [zA]) ?_;cbv;refine wP (by grind [zA]) ?_;cbv;refine gD wI wG ?_;cbv;refine gD wI wG ?_;cbv;refine zE (λhlt=>?_) (λhlt=>?_)
   ·(have cp:=Y0 out ⟨w1,w2,w3⟩ a.1 a.2 ((hst a ha).mono (by decide)) oM;have hI':M=pcr out a.1 a.2.q++mrg cq (tq aa) (tq (b::bb)):=by rw[hI,bF,bF,mrg,if_pos (show (a.1,a.2.q).1<(b.1,b.2.q).1 from hlt),fD]);have hpl:=fC out a.1 a.2.q
    generalize pcr out a.1 a.2.q=out' at *;cbv;refine zL 9 (by cbv) ?_;cbv;refine gD wI wG ?_;cbv;refine gD wI wG ?_;cbv;refine kA (λ_=>200) cp ?_;cbv;refine⟨vX (by decide) (by simp[zA] <;> omega) (by simp[zA]),wD wG _,?_⟩;cbv;refine⟨(out',aa,b::bb),⟨hI',by simp at hL hpl ⊢;omega,λt ht=>hA t (x9 _ ht),hB⟩,by simp,.le ?_ ?_ rfl⟩;{cbv;exact⟨lR,lR,lR,zR (by simp[enc,yW]),lR,trivial⟩};{cbv;exact⟨okA,okA,okA,zG rfl,trivial⟩}
   ·cbv;refine zL 15 (by cbv) ?_;cbv;refine yD (by grind [zA]) ?_;cbv;refine gD wI wG ?_;cbv;refine gD wI wG ?_;cbv;refine zE (λhlt2=>?_) (λhlt2=>?_)
    ·(have cmb:=hmul b hb;have cp:=Y0 out ⟨w1,w2,w3⟩ b.1 (zI (b.2.q*cq)) ((hmsz b hb).mono (by decide)) oM;rw[z9] at cp;have hI':M=pcr out b.1 (b.2.q*cq)++mrg cq (tq (a::aa)) (tq bb):=by rw[hI,bF,bF,mrg,if_neg (show ¬(a.1,a.2.q).1<(b.1,b.2.q).1 from hlt),if_pos (show (b.1,b.2.q).1<(a.1,a.2.q).1 from hlt2),fD]);have hpl:=fC out b.1 (b.2.q*cq)
     generalize pcr out b.1 (b.2.q*cq)=out' at *;generalize zI (b.2.q*cq)=X at *;cbv;refine zL 11 (by cbv) ?_;cbv;refine gD wI wG ?_;cbv;refine gD wI wG ?_;cbv;refine dA cmb ?_;cbv;refine kA (λ_=>200) cp ?_;cbv;refine⟨vX (by decide) (by simp[zA] <;> omega) (by simp[zA]),wD wG _,?_⟩;cbv;refine⟨(out',a::aa,bb),⟨hI',by simp at hL hpl ⊢;omega,hA,λt ht=>hB t (x9 _ ht)⟩,by simp,.le ?_ ?_ rfl⟩;{cbv;exact⟨lR,lR,lR,lR,zR (by simp[enc,yW]),trivial⟩};{cbv;exact⟨okA,okA,okA,zG rfl,trivial⟩}
    ·(have cmb:=hmul b hb;have cab:=hadd a b ha hb;have cp:=Y0 out ⟨w1,w2,w3⟩ a.1 (zI (a.2.q+b.2.q*cq)) ((hasz a b ha hb).mono (by decide)) oM;rw[z9] at cp;have hI':M=pcr out a.1 (a.2.q+b.2.q*cq)++mrg cq (tq aa) (tq bb):=by rw[hI,bF,bF,mrg,if_neg (show ¬(a.1,a.2.q).1<(b.1,b.2.q).1 from hlt),if_neg (show ¬(b.1,b.2.q).1<(a.1,a.2.q).1 from hlt2),fD]);have hpl:=fC out a.1 (a.2.q+b.2.q*cq)
     generalize pcr out a.1 (a.2.q+b.2.q*cq)=out' at *;generalize zI (a.2.q+b.2.q*cq)=Y at *;generalize zI (b.2.q*cq)=X at *;cbv;refine zL 16 (by cbv) ?_;cbv;refine gD wI wG ?_;cbv;refine gD wI wG ?_;cbv;refine gD wI wG ?_;cbv;refine dA cmb ?_;cbv;refine dA cab ?_;cbv;refine kA (λ_=>200) cp ?_;cbv;refine zL 5 (by cbv) ?_;cbv;refine⟨vX (by decide) (by simp[zA] <;> omega) (by simp[zA]),wD wG _,?_⟩;cbv;refine⟨vX (by decide) (by simp[zA] <;> omega) (by simp[zA]),wD wG _,?_⟩;cbv;refine⟨(out',aa,bb),⟨hI',by simp at hL hpl ⊢;omega,λt ht=>hA t (x9 _ ht),λt ht=>hB t (x9 _ ht)⟩,by simp <;> omega,.le ?_ ?_ rfl⟩;{cbv;exact⟨lR,lR,lR,zR (by simp[enc,yW]),zR (by simp[enc,yW]),trivial⟩};{cbv;exact⟨okA,okA,okA,zG rfl,trivial⟩}
def eP (z:Int)(h1:-1000<=z)(h2:z<=1000):(zI (z:Rat)).sz 1:=zU (XK (by show z.natAbs<4294967296^1;omega) (by decide))
def Ji (f g:A)(hf:f.sz (2^33))(hg:g.sz (2^33)):zD 231 [av f,av g] (fv (f.f.add g.f)):=by refine sF Tryz.f231 ?_;have c1:=Dd 1 (by decide) (by decide);have cm:=Y1 f g (zI ((1:Int):Rat)) hf hg ((eP 1 (by decide) (by decide)).mono (by decide));rw[z9] at cm;have e:f.f.merge g.f ((1:Int):Rat)=f.f.add g.f:=rfl;rw[e] at cm;generalize fA (f.f.add g.f)=W at *;generalize zI ((1:Int):Rat)=o at *;obtain⟨ft,f1,f2,f3⟩:=f;obtain⟨gt,g1,g2,g3⟩:=g;obtain⟨wt,w1,w2,w3⟩:=W;cbv;refine zL 4 (by cbv) ?_;cbv;refine dA c1 ?_;cbv;refine dA cm ?_;cbv;exact rA
def aG (f g:A)(hf:f.sz (2^33))(hg:g.sz (2^33)):zD 185 [av f,av g] (fv (f.f.sub g.f)):=by refine sF Tryz.f185 ?_;have c1:=Dd (-1) (by decide) (by decide);have cm:=Y1 f g (zI ((-1:Int):Rat)) hf hg ((eP (-1) (by decide) (by decide)).mono (by decide));rw[z9] at cm;have e:f.f.merge g.f ((-1:Int):Rat)=f.f.sub g.f:=rfl;rw[e] at cm;generalize fA (f.f.sub g.f)=W at *;generalize zI ((-1:Int):Rat)=o at *;obtain⟨ft,f1,f2,f3⟩:=f;obtain⟨gt,g1,g2,g3⟩:=g;obtain⟨wt,w1,w2,w3⟩:=W;cbv;refine zL 4 (by cbv) ?_;cbv;refine dA c1 ?_;cbv;refine dA cm ?_;cbv;exact rA
def tY (f:A)(c:R)(hf:f.sz (2^33))(hc:c.sz (2^33)):zD 186 [av f,rv c] (fv (f.f.scale c.q)):=by refine sF Tryz.f186 ?_;have cm:=Y1 ⟨[],⟨false,[],[]⟩⟩ f c ⟨⟨by decide,λ_ h=>absurd h (by simp)⟩,⟨by decide,by decide⟩⟩ hf hc;have e:(A.f ⟨[],⟨false,[],[]⟩⟩).merge f.f c.q=f.f.scale c.q:=rfl;rw[e] at cm;generalize fA (f.f.scale c.q)=W at *;obtain⟨ft,f1,f2,f3⟩:=f;obtain⟨c1,c2,c3⟩:=c;obtain⟨wt,w1,w2,w3⟩:=W;cbv;refine yP rfl okA cm rfl ?_;cbv;exact rA
structure Row where
 k:Int
 i:Int
 lo:Int
 hi:Int
deriving DecidableEq
structure Mult where
 row:Row
 c:R
deriving DecidableEq
structure Dec where
 k:Int
 i:Int
 x:R
structure Lem where
 u:Int
 up:Bool
 v:R
 pf:List Mult
structure Grp where
 n:Int
 us:List A
 os:List A
structure Reg where
 lo:List R
 hi:List R
 rows:List A
structure Qry where
 g:Grp
 r:Reg
 goal:A
structure Scp where
 q:Qry
 path:List Dec
 lems:List Lem
abbrev rlv (l:List R):PV:=.sl (λ_=>enc rc l)
abbrev alv (l:List A):PV:=.sl (λ_=>enc ac l)
abbrev rwc (r:Row):List PV:=[iV r.k,iV r.i,iV r.lo,iV r.hi]
abbrev rwv (r:Row):PV:=.agg [iV r.k,iV r.i,iV r.lo,iV r.hi]
def mc (m:Mult):List PV:=[iV m.row.k,iV m.row.i,iV m.row.lo,iV m.row.hi,bV m.c.neg,nat m.c.num,nat m.c.den]
abbrev mlv (l:List Mult):PV:=.sl (λ_=>enc mc l)
def dc (d:Dec):List PV:=[iV d.k,iV d.i,bV d.x.neg,nat d.x.num,nat d.x.den]
abbrev dv (d:Dec):PV:=.agg [iV d.k,iV d.i,bV d.x.neg,nat d.x.num,nat d.x.den]
abbrev dlv (l:List Dec):PV:=.sl (λ_=>enc dc l)
def lc (l:Lem):List PV:=[iV l.u,bV l.up,bV l.v.neg,nat l.v.num,nat l.v.den,mlv l.pf]
abbrev lv' (l:Lem):PV:=.agg [iV l.u,bV l.up,bV l.v.neg,nat l.v.num,nat l.v.den,mlv l.pf]
abbrev llv (l:List Lem):PV:=.sl (λ_=>enc lc l)
abbrev gv (g:Grp):PV:=.agg [iV g.n,alv g.us,alv g.os]
abbrev rgv (r:Reg):PV:=.agg [rlv r.lo,rlv r.hi,alv r.rows]
abbrev qv (q:Qry):PV:=.agg [iV q.g.n,alv q.g.us,alv q.g.os,rlv q.r.lo,rlv q.r.hi,alv q.r.rows,tsv q.goal.ts,bV q.goal.c.neg,nat q.goal.c.num,nat q.goal.c.den]
abbrev sv (s:Scp):PV:=.agg [iV s.q.g.n,alv s.q.g.us,alv s.q.g.os,rlv s.q.r.lo,rlv s.q.r.hi,alv s.q.r.rows,tsv s.q.goal.ts,bV s.q.goal.c.neg,nat s.q.goal.c.num,nat s.q.goal.c.den,dlv s.path,llv s.lems]
def sc (s:Scp):List PV:=[iV s.q.g.n,alv s.q.g.us,alv s.q.g.os,rlv s.q.r.lo,rlv s.q.r.hi,alv s.q.r.rows,tsv s.q.goal.ts,bV s.q.goal.c.neg,nat s.q.goal.c.num,nat s.q.goal.c.den,dlv s.path,llv s.lems]
def wM (a:Mult):yT qS (mc a)=true:=rfl
def xI (a:Mult):(mc a).length=7:=rfl
def vN (a:Dec):yT qS (dc a)=true:=rfl
def qE (a:Dec):(dc a).length=5:=rfl
def yR (a:Lem):yT qS (lc a)=true:=rfl
def y4 (a:Lem):(lc a).length=6:=rfl
structure Asz (k:Nat) (l:List A):Prop where
 len:l.length<2^38
 sz:∀ a,a∈l->a.sz k
structure Rsz (k:Nat) (l:List R):Prop where
 len:l.length<2^38
 sz:∀ a,a∈l->a.sz k
structure Msz (k:Nat) (l:List Mult):Prop where
 len:l.length<2^38
 sz:∀ a,a∈l->a.c.sz k
structure Dsz (k:Nat) (l:List Dec):Prop where
 len:l.length<2^38
 sz:∀ a,a∈l->a.x.sz k
structure Lsz (k:Nat) (l:List Lem):Prop where
 len:l.length<2^38
 sz:∀ a,a∈l->a.v.sz k
 pf:∀ a,a∈l->Msz k a.pf
structure Grp.sz (g:Grp) (k:Nat):Prop where
 us:Asz k g.us
 os:Asz k g.os
structure Reg.sz (r:Reg) (k:Nat):Prop where
 lo:Rsz k r.lo
 hi:Rsz k r.hi
 rows:Asz k r.rows
structure Qry.sz (q:Qry) (k:Nat):Prop where
 g:q.g.sz k
 r:q.r.sz k
 goal:q.goal.sz k
structure Scp.sz (s:Scp) (k:Nat):Prop where
 q:s.q.sz k
 path:Dsz k s.path
 lems:Lsz k s.lems
theorem Asz.mono {k m:Nat}{l}(h:Asz k l)(hm:k<=m):Asz m l:=⟨h.len,λa ha=>(h.sz a ha).mono hm⟩
theorem Rsz.mono {k m:Nat}{l}(h:Rsz k l)(hm:k<=m):Rsz m l:=⟨h.len,λa ha=>(h.sz a ha).mono hm⟩
theorem Msz.mono {k m:Nat}{l}(h:Msz k l)(hm:k<=m):Msz m l:=⟨h.len,λa ha=>(h.sz a ha).mono hm⟩
theorem Dsz.mono {k m:Nat}{l}(h:Dsz k l)(hm:k<=m):Dsz m l:=⟨h.len,λa ha=>(h.sz a ha).mono hm⟩
theorem Lsz.mono {k m:Nat}{l}(h:Lsz k l)(hm:k<=m):Lsz m l:=⟨h.len,λa ha=>(h.sz a ha).mono hm,λa ha=>(h.pf a ha).mono hm⟩
theorem Grp.sz.mono {k m:Nat}{g:Grp}(h:g.sz k)(hm:k<=m):g.sz m:=⟨h.us.mono hm,h.os.mono hm⟩
theorem Reg.sz.mono {k m:Nat}{g:Reg}(h:g.sz k)(hm:k<=m):g.sz m:=⟨h.lo.mono hm,h.hi.mono hm,h.rows.mono hm⟩
theorem Qry.sz.mono {k m:Nat}{g:Qry}(h:g.sz k)(hm:k<=m):g.sz m:=⟨h.g.mono hm,h.r.mono hm,h.goal.mono hm⟩
theorem Scp.sz.mono {k m:Nat}{g:Scp}(h:g.sz k)(hm:k<=m):g.sz m:=⟨h.q.mono hm,h.path.mono hm,h.lems.mono hm⟩
def vU:Int->List A->Bool
 |_,[]=>true| k,f::r=>f.valid k&&vU (k+1) r
def Grp.vars (g:Grp):Int:=g.n+g.us.length
def Grp.valid (g:Grp):Bool:=decide (1<=g.n/\g.n<=256/\g.us.length<=1024/\1<=g.os.length/\g.os.length<=256)&&vU g.n g.us&&g.os.all (A.valid g.vars)
def vB:List R->List R->Bool
 |l::ls,h::hs=>l.ok&&h.ok&&decide (uM l.q h.q<=0)&&vB ls hs| _,_=>true
def Reg.valid (n:Int) (r:Reg):Bool:=decide (1<=n/\n<=256/\(r.lo.length:Int)=n/\(r.hi.length:Int)=n/\r.rows.length<=256)&&vB r.lo r.hi&&r.rows.all (A.valid n)
def Qry.valid (q:Qry):Bool:=q.g.valid&&q.r.valid q.g.n&&q.goal.valid q.g.vars
def Dec.fits (q:Qry) (d:Dec):Bool :=
 if d.k=1\/d.k=2 then decide (0<=d.i/\d.i<q.g.us.length)&&decide (d.x=⟨false,[],[]⟩)
 else if d.k=3\/d.k=4 then decide (0<=d.i/\d.i<q.g.n)&&d.x.ok
 else false
def uF {α:Type} (P:α->Bool):List α->Int
 |[]=>-1| a::r=>if P a then 0 else if uF P r<0 then -1 else uF P r+1
def bQ {α:Type}(P:α->Bool):∀ l:List α,-1<=uF P l
 |[]=>by simp[uF]| a::r=>by grind [uF]
def Q7 {α:Type}(P:α->Bool):∀ l:List α,0<=uF P l↔l.any P=true
 |[]=>by simp[uF]| a::r=>by have ih:=Q7 P r;rw[List.any_cons,Fr,<-ih];rw[show uF P (a::r)=if P a then 0 else if uF P r<0 then -1 else uF P r+1 from rfl];grind
def Q8 {α:Type}(P:α->Bool)(l:List α):decide (0<=uF P l)=l.any P:=by rw[s7,decide_eq_true_eq,Q7]
def les_refl:∀ a:PV,les a a
 |.agg cs=>allLe_refl1 cs| .tup cs=>allLe_refl1 cs| .fn f cs=>⟨nqb_self f,allLe_refl1 cs⟩| .int k n=>lR| .tt=>lR| .ff=>lR| .bool b=>lR| .nbool b=>lR| .str s=>lR| .nil=>lR| .sl els=>lR| .ptr n o=>lR| .aptr n s i o=>lR| .dptr cs o=>lR| .osl n s o l=>lR| .nilf=>lR| .nilp=>lR| .mpv n=>lR| .emp=>lR| .any=>lR
where
 les1_refl:∀ a:PV,QY a a
  |.agg cs=>allLeS_refl cs| .tup cs=>allLeS_refl cs| .fn f cs=>lR| .int k n=>lR| .tt=>lR| .ff=>lR| .bool b=>lR| .nbool b=>lR| .str s=>lR| .nil=>lR| .sl els=>lR| .ptr n o=>lR| .aptr n s i o=>lR| .dptr cs o=>lR| .osl n s o l=>lR| .nilf=>lR| .nilp=>lR| .mpv n=>lR| .emp=>lR| .any=>lR
 allLeS_refl:∀ l:List PV,kP LeS l l
  |[]=>trivial| a::r=>⟨mI a,allLeS_refl r⟩
 allLe_refl1:∀ l:List PV,kP QY l l
  |[]=>trivial| a::r=>⟨les1_refl a,allLe_refl1 r⟩
def nO:∀ l:List PV,kP les l l
 |[]=>trivial| a::r=>⟨les_refl a,nO r⟩
theorem dG (l:List PV):kP QY l l:=les_refl.allLe_refl1 l
def WF (T:List (Nat×PV)):List Nat->List (Nat×PV)
 |[]=>[]| t::r=>(t,zF T t)::WF T r
def nZ (O:List (Nat×Obj')):List Nat->List (Nat×Obj')
 |[]=>[]
 |n::r=>(match yO O n with
  |some o=>(n,o)::nZ O r| none=>nZ O r)
def ndN:List Nat->Bool
 |[]=>true| n::r=>!(yH n r)&&ndN r
def Ka:∀ (hs:List (PV×(Unit->Nat))),hLe hs hs
 |[]=>trivial| (v,k)::r=>⟨⟨lR,lR⟩,Ka r⟩
def JB:∀ o:Obj',WB o o
 |.mat s r hs=>⟨nqb_self s,⟨rfl⟩,Ka hs⟩| .mp t k=>⟨nqb_self t,⟨rfl⟩⟩| .box cs=>nO cs| .arr s e=>⟨nqb_self s,⟨rfl⟩⟩| .log s e=>⟨nqb_self s,⟨rfl⟩⟩| .lent s e=>⟨nqb_self s,⟨rfl⟩⟩
def HX (T:List (Nat×PV)):∀ L,leT T (WF T L)
 |[]=>trivial| t::r=>⟨les_refl _,HX T r⟩
def UK (O:List (Nat×Obj')):∀ M,leO O (nZ O M)
 |[]=>trivial| n::r=>by
  unfold nZ;cases h:yO O n with
  |none=>exact UK O r| some o =>
   refine⟨?_,UK O r⟩;rw[h];exact JB o
def XI (O:List (Nat×Obj'))(m:Nat):∀ M,yH m M=false->G7 m (nZ O M)=false
 |[],_=>rfl| n::r,h=>by
  simp only[yH,Gr] at h;unfold nZ;cases yO O n with
  |none=>exact XI O m r h.2| some o =>
   simp only[G7,Gr];refine⟨?_,XI O m r h.2⟩;grind
def UB (O:List (Nat×Obj')):∀ M,ndN M=true->ndO (nZ O M)=true
 |[],_=>rfl| n::r,h=>by
  simp only[ndN,yZ,Ws] at h;unfold nZ;cases yO O n with
  |none=>exact UB O r h.2| some o =>
   simp only[ndO,yZ,Ws];exact⟨XI O n r h.1,UB O r h.2⟩
theorem Wk.sel (ps:PS)(L M:List Nat)(h:ndN M=true):Wk ps ⟨WF ps.tmps L,nZ ps.objs M⟩:=.le (HX _ _) (UK _ _) (UB _ _ h)
def tL {g as_ dst ps K f caps args' r}(L M:List Nat)(hM:ndN M=true)(h1:ev (zF (WF ps.tmps L)) g=.fn f caps)(h2:kP les (evs (ev (zF (WF ps.tmps L))) as_++caps) args')(h3:zD f args' r)(h5:nmIn [] r=true) (h4:K (put ⟨WF ps.tmps L,nZ ps.objs M⟩ dst r)):CallOk g as_ dst ps K:=qO (Wk.sel ps L M hM) h1 h2 h3 h5 h4
def XQ {ops:List Oper}{ps:PS}{K:PS->Prop}(k:Nat)(L M:List Nat)(hM:ndN M=true)(hd:rL ops k=true)(h:ZB ops [] (yK (ops.take k)) (nZ ps.objs M) (ops.take k) 0 (WF ps.tmps L) (nZ ps.objs M) (λT O=>Xq (yK (ops.take k)) T (jL ops (ops.drop k) ⟨T,O⟩ K)))(hm:(ndO (yK (ops.take k))&&UF ⟨WF ps.tmps L,nZ ps.objs M⟩ (yK (ops.take k)))=true:=by cbv):DrawK ops ps K :=
 .ef k [] _ (Wk.sel ps L M hM) hd rfl hm h
def XR {ops:List Oper}{ps:PS}{K:PS->Prop}(k:Nat)(L M:List Nat)(hM:ndN M=true)(hd:rL ops k=true)(hm:(ndO (yK (ops.take k))&&UF ⟨WF ps.tmps L,nZ ps.objs M⟩ (yK (ops.take k)))=true) (h:ZB ops [] (yK (ops.take k)) (nZ ps.objs M) (ops.take k) 0 (WF ps.tmps L) (nZ ps.objs M) (λT O=>Xq (yK (ops.take k)) T (jL ops (ops.drop k) ⟨T,O⟩ K))):DrawK ops ps K :=
 .ef k [] _ (Wk.sel ps L M hM) hd rfl hm h
def TP (P:A->Bool)(l:List A)(hl:l.length<2^40)(g:FuncId)(caps:List PV)(hg:∀ a,a∈l->zD g (.agg (ac a)::caps) (bV (P a))):zD 245 [.sl (λ_=>enc ac l),.fn g caps] (iV (uF P l)):=by
 refine sF Tryz.f245 ?_;generalize hr:uF P l=r;cbv;refine zW (σ:=Nat) (λi=>⟨[(0,.sl (λ_=>enc ac l)),(1,.fn g caps),(7,iV l.length),(8,iV i)],[]⟩)
  (λi=>i<=l.length/\r=(if uF P (l.drop i)<0 then -1 else uF P (l.drop i)+i)) (λi=>l.length-i) 0 ⟨om,?_⟩ (.le ?_ ?_ rfl) ?_
 {rw[wN,hr];have:=bQ P l;omega};{cbv;exact⟨lR,(by cases caps <;> first|trivial|grind [les_refl.les1_refl,dG]),zB (by (try dsimp only [zV] at *);rw[zA]),lR,trivial⟩};{cbv};intro i hs;obtain⟨h1,h2⟩:=hs;cbv;refine zE (λh5=>?_) (λh5=>?_)
 ·cbv;refine xM (l:=l) i (by (grind) <;> (try simp only[zH] at *) <;> omega) om jI dN (λt ht=>?_);have hc:=hg t (z8 ht);rw[zT ht,show uF P (t::l.drop (i+1))=if P t then 0 else if uF P (l.drop (i+1))<0 then -1 else uF P (l.drop (i+1))+1 from rfl] at h2;have hge:=bQ P (l.drop (i+1));generalize P t=p at *;generalize hk:uF P (l.drop (i+1))=k at *;cbv;refine yP rfl (by exact⟨les_refl _,nO caps⟩) hc rfl ?_;cbv;refine zN (λh6=>?_) (λh6=>?_)
  ·subst h6;cbv
   (refine rC ?_;cbv)
   exact zB (by (try dsimp only [zV] at *);grind)
  ·subst h6;cbv;refine⟨zC om om,i+1,⟨om,?_⟩,om,.le ?_ ?_ rfl⟩
   ·(try dsimp only [zV] at *)
    grind
   {cbv;exact⟨lR,(by cases caps <;> first|trivial|grind [les_refl.les1_refl,dG]),lR,zB om,trivial⟩};{cbv}
 ·have:i=l.length:=om;rw[this,x8] at h2;cbv
  (refine rC ?_;cbv)
  exact zB (by rw[h2];simp[uF])
def Sa (P:A->Bool)(l:List A)(hl:l.length<2^40)(g:FuncId)(caps:List PV)(hg:∀ a,a∈l->zD g (.agg (ac a)::caps) (bV (P a))):zD 195 [.sl (λ_=>enc ac l),.fn g caps] (bV (l.any P)):=by refine sF Tryz.f195 ?_;have hc:=TP P l hl g caps hg;rw[<-Q8];generalize uF P l=k at *;cbv;refine yP rfl (by exact⟨lR,⟨nqb_self g,dG caps⟩,trivial⟩) hc rfl ?_;cbv;exact rA
def Cb:Pg.funcs[120]?=some Tryz.f120:=by rw[uQ];rfl
def TO (P:Dec->Bool)(l:List Dec)(hl:l.length<2^40)(g:FuncId)(caps:List PV)(hg:∀ a,a∈l->zD g (.agg (dc a)::caps) (bV (P a))):zD 120 [.sl (λ_=>enc dc l),.fn g caps] (iV (uF P l)):=by
 refine aC Cb rfl rfl rfl rfl rfl ?_;generalize hr:uF P l=r;cbv;refine zW (σ:=Nat) (λi=>⟨[(0,.sl (λ_=>enc dc l)),(1,.fn g caps),(7,iV l.length),(8,iV i)],[]⟩)
  (λi=>i<=l.length/\r=(if uF P (l.drop i)<0 then -1 else uF P (l.drop i)+i)) (λi=>l.length-i) 0 ⟨om,?_⟩ (.le ?_ ?_ rfl) ?_
 {rw[wN,hr];have:=bQ P l;omega};{cbv;exact⟨lR,(by cases caps <;> first|trivial|grind [les_refl.les1_refl,dG]),zB (by (try dsimp only [zV] at *);rw[zA]),lR,trivial⟩};{cbv};intro i hs;obtain⟨h1,h2⟩:=hs;cbv;refine zE (λh5=>?_) (λh5=>?_)
 ·cbv;refine xM (l:=l) i (by (grind) <;> (try simp only[zH] at *) <;> omega) om vN qE (λt ht=>?_);have hc:=hg t (z8 ht);rw[zT ht,show uF P (t::l.drop (i+1))=if P t then 0 else if uF P (l.drop (i+1))<0 then -1 else uF P (l.drop (i+1))+1 from rfl] at h2;have hge:=bQ P (l.drop (i+1));generalize P t=p at *;generalize hk:uF P (l.drop (i+1))=k at *;cbv;refine yP rfl (by exact⟨les_refl _,nO caps⟩) hc rfl ?_;cbv;refine zN (λh6=>?_) (λh6=>?_)
  ·subst h6;cbv
   (refine rC ?_;cbv)
   exact zB (by (try dsimp only [zV] at *);grind)
  ·subst h6;cbv;refine⟨zC om om,i+1,⟨om,?_⟩,om,.le ?_ ?_ rfl⟩
   ·(try dsimp only [zV] at *)
    grind
   {cbv;exact⟨lR,(by cases caps <;> first|trivial|grind [les_refl.les1_refl,dG]),lR,zB om,trivial⟩};{cbv}
 ·have:i=l.length:=om;rw[this,x8] at h2;cbv
  (refine rC ?_;cbv)
  exact zB (by rw[h2];simp[uF])
def A9 (P:Dec->Bool)(l:List Dec)(hl:l.length<2^40)(g:FuncId)(caps:List PV)(hg:∀ a,a∈l->zD g (.agg (dc a)::caps) (bV (P a))):zD 135 [.sl (λ_=>enc dc l),.fn g caps] (bV (l.any P)):=by refine sF Tryz.f135 ?_;have hc:=TO P l hl g caps hg;rw[<-Q8];generalize uF P l=k at *;cbv;refine yP rfl (by exact⟨lR,⟨nqb_self g,dG caps⟩,trivial⟩) hc rfl ?_;cbv;exact rA
def NQ (a:A)(vars:Int)(ha:a.sz (2^36)):zD 242 [.agg (ac a),.dptr [iV vars] 0] (bV (!a.valid vars)):=by
 refine sF Tryz.f242 ?_;have c1:=tX a vars ha;generalize a.valid vars=r at *;obtain⟨ts,c1',c2,c3⟩:=a;cbv;refine cA c1 ?_;cbv
 (refine rC ?_;cbv)
 exact vF rfl
def Qf {α:Type}(p:α->Bool)(l:List α):l.all p=!(l.any λa=>!(p a)):=by grind
def NP (l:List A)(vars:Int)(hl:Asz (2^36) l):zD 193 [alv l,iV vars] (bV (l.all (A.valid vars))):=by
 refine sF Tryz.f193 ?_;have c1:=Sa (λa=>!(a.valid vars)) l (gT hl.len (by decide)) 242 [.dptr [iV vars] 0] (λa ha=>NQ a vars (hl.sz a ha));rw[Qf];generalize (l.any λa=>!(a.valid vars))=r at *;cbv;refine qO (.frz 3 rfl rfl (by repeat' first|exact trivial|apply And.intro) (by repeat' first|exact trivial|apply And.intro)) rfl (by exact⟨lR,⟨rfl,lR,trivial⟩,trivial⟩) c1 rfl ?_;cbv
 (refine rC ?_;cbv)
 exact vF rfl
def J9 (k:Int)(f:A)(r:List A):vU k (f::r)=(f.valid k&&vU (k+1) r):=rfl
def F5 (g:Grp)(hg:g.sz (2^36)):zD 149 [gv g] (bV g.valid):=by
 refine sF Tryz.f149 ?_;obtain⟨n,us,os⟩:=g;have hu:=hg.us.sz;have hul:=hg.us.len;have hol:=hg.os.len;have hos:=λvars=>NP os vars hg.os;clear hg;simp only at hu hul hol hos;generalize hr:Grp.valid ⟨n,us,os⟩=r;have hr0:r=(decide (1<=n/\n<=256/\us.length<=1024/\1<=os.length/\os.length<=256)&&vU n us&&os.all (A.valid (n+us.length))):=hr.symm;clear hr;have hno:¬(1<=n/\n<=256/\us.length<=1024/\1<=os.length/\os.length<=256)->r=false:=λh=>by grind
 cbv;refine zO (λe1=>?_) (λe1=>?_)
 ·cbv
  (refine rC ?_;cbv)
  exact zK (hno om)
 cbv;refine zO (λe2=>?_) (λe2=>?_)
 ·cbv
  (refine rC ?_;cbv)
  exact zK (hno om)
 cbv;refine zO (λe3=>?_) (λe3=>?_)
 ·cbv
  (refine rC ?_;cbv)
  exact zK (hno (by simp only[zA] at e3;exact om))
 cbv;refine zO (λe4=>?_) (λe4=>?_)
 ·cbv
  (refine rC ?_;cbv)
  exact zK (hno (by simp only[zA] at e4;exact om))
 cbv;refine zE (λe5=>?_) (λe5=>?_)
 ·cbv
  (refine rC ?_;cbv)
  exact zK (hno (by simp only[zA] at e5;exact om))
 rw[zA] at e3 e4 e5
 (try dsimp only [zV] at *)
 rw[decide_eq_true oM,yL] at hr0;clear hno;cbv;refine zW (σ:=Nat) (λi=>⟨[(1,.ptr 1 0),(32,alv us),(33,iV us.length),(34,iV i)],[(1,.box [iV n,alv us,alv os])]⟩)
  (λi=>i<=us.length/\r=(vU (n+i) (us.drop i)&&os.all (A.valid (n+us.length)))) (λi=>us.length-i) 0 ⟨om,?_⟩ (.le ?_ ?_ rfl) ?_
 {grind};{cbv;exact⟨lR,lR,zB (by (try dsimp only [zV] at *);rw[zA]),lR,trivial⟩};{cbv;exact okA};clear hr0;intro i hs;obtain⟨h1,h2⟩:=hs;cbv;refine zE (λh5=>?_) (λh5=>?_)
 ·(cbv;refine xM (l:=us) i (by (grind) <;> (try simp only[zH] at *) <;> omega) om jI dN (λt ht=>?_);have cv:=tX t (n+i) (hu t (z8 ht));rw[zT ht,J9] at h2;have e:n+(i:Int)+1=n+((i+1:Nat):Int):=by omega);rw[e] at h2
  generalize hv:t.valid (n+i)=v at *;obtain⟨t1,t2,t3,t4⟩:=t;cbv;refine⟨zC om om,?_⟩;cbv;refine cA cv ?_;cbv;refine zN (λh6=>?_) (λh6=>?_);{subst h6;rw[yL] at h2;cbv;refine⟨zC om om,i+1,⟨om,h2⟩,om,.le ?_ ?_ rfl⟩;{cbv;exact⟨lR,lR,lR,zB om,trivial⟩};{cbv;exact okA}}
  ·subst h6;cbv
   (refine rC ?_;cbv)
   exact zK (by grind)
 {have hi:i=us.length:=om;rw[hi,x8] at h2;have h2':r=os.all (A.valid (n+us.length)):=h2;have cv:=hos (n+us.length);rw[<-h2'] at cv;clear h2 h2' hos;cbv;refine⟨zC (by rw[zA];exact om) (by rw[zA];exact om),?_⟩;cbv;refine yP rfl (by exact⟨lR,zB (by rw[zA]),trivial⟩) cv rfl ?_;cbv;exact rA}
def MS (a:A)(vars:Int)(ha:a.sz (2^36)):zD 196 [.agg (ac a),.dptr [iV vars] 0] (bV (!a.valid vars)):=by
 refine sF Tryz.f196 ?_;have c1:=tX a vars ha;generalize a.valid vars=r at *;obtain⟨ts,c1',c2,c3⟩:=a;cbv;refine cA c1 ?_;cbv
 (refine rC ?_;cbv)
 exact vF rfl
theorem Hb (l:R)(ls)(h:R)(hs):vB (l::ls) (h::hs)=(l.ok&&h.ok&&decide (uM l.q h.q<=0)&&vB ls hs):=rfl
def zQ {α:Type}{l:List α}{i:Nat}(h:i<l.length):∃ a,l[i]?=some a:=⟨l[i],by simp[h]⟩
def FX (g:Reg)(n:Int)(hg:g.sz (2^34)):zD 150 [rgv g,iV n] (bV (g.valid n)):=by
 refine sF Tryz.f150 ?_;obtain⟨lo,hi,rows⟩:=g;have hlo:=hg.lo.sz;have hhi:=hg.hi.sz;have hlol:=hg.lo.len;have hhil:=hg.hi.len;have hrl:=hg.rows.len;have hrs:=hg.rows.sz;simp only at hlo hhi hlol hhil hrl hrs;have cr:=Sa (λa=>!(a.valid n)) rows (gT hrl (by decide)) 196 [.dptr [iV n] 0] (λa ha=>MS a n ((hrs a ha).mono (by decide)));generalize hr:Reg.valid n ⟨lo,hi,rows⟩=r;have hr0:r=(decide (1<=n/\n<=256/\(lo.length:Int)=n/\(hi.length:Int)=n/\rows.length<=256)&&vB lo hi&&rows.all (A.valid n)):=hr.symm;rw[Qf] at hr0;generalize (rows.any λa=>!(a.valid n))=bad at *;clear hr hrs hg;have hno:¬(1<=n/\n<=256/\(lo.length:Int)=n/\(hi.length:Int)=n/\rows.length<=256)->r=false:=λh=>by grind
 cbv;refine zO (λe1=>?_) (λe1=>?_)
 ·cbv
  (refine rC ?_;cbv)
  exact zK (hno om)
 cbv;refine zO (λe2=>?_) (λe2=>?_)
 ·cbv
  (refine rC ?_;cbv)
  exact zK (hno om)
 cbv;refine zO (λe3=>?_) (λe3=>?_)
 ·cbv;refine zO (λe4=>?_) (λe4=>?_)
  ·cbv;refine zE (λe5=>?_) (λe5=>?_)
   ·cbv
    (refine rC ?_;cbv)
    exact zK (hno (by simp only[zA] at e5;exact om))
   rw[zA] at e3 e4 e5
   (try dsimp only [zV] at *)
   rw[decide_eq_true oM,yL] at hr0;clear hno;cbv;refine zW (σ:=Nat) (λi=>⟨[(2,.ptr 2 0),(3,.ptr 3 0),(34,rlv lo),(35,iV lo.length),(36,iV i)],[(2,.box [rlv lo,rlv hi,alv rows]),(3,.box [iV n])]⟩)
    (λi=>i<=lo.length/\r=(vB (lo.drop i) (hi.drop i) && !bad)) (λi=>lo.length-i) 0 ⟨om,hr0⟩ (.le ?_ ?_ rfl) ?_
   {cbv;exact⟨lR,lR,lR,zB (by (try dsimp only [zV] at *);rw[zA]),lR,trivial⟩};{cbv;exact okA};clear hr0;intro i hs;obtain⟨h1,h2⟩:=hs;cbv;refine zE (λh5=>?_) (λh5=>?_)
   ·cbv;refine xM (l:=lo) i (by (grind) <;> (try simp only[zH] at *) <;> omega) om j4 cR (λl hl=>?_);obtain⟨h,hh⟩:∃ h,hi[i]?=some h:=zQ (by exact om);rw[zT hl,zT hh,Hb] at h2;have hls:=hlo l (z8 hl);have hhs:=hhi h (z8 hh);have cl:=Jo l (hls.mono (by decide));have ch:=Jo h (hhs.mono (by decide));have cc:=N9 l h hls hhs;generalize uM l.q h.q=cq at *;generalize l.ok=o1 at *;generalize h.ok=o2 at *;obtain⟨l1,l2,l3⟩:=l;cbv;refine zL 22 (by cbv) ?_;cbv;refine dA cl ?_;cbv;refine yA (λe6=>?_) (λe6=>?_)
    ·(subst e6;cbv;refine xM (l:=hi) i (by (grind) <;> (try simp only[zH] at *) <;> omega) om j4 cR (λh' hh'=>?_);obtain rfl:h'=h:=by grind);obtain⟨k1,k2,k3⟩:=h'
     cbv;refine dA ch ?_;cbv;refine yA (λe7=>?_) (λe7=>?_)
     ·(subst e7;cbv;refine xM (l:=hi) i (by (grind) <;> (try simp only[zH] at *) <;> omega) om j4 cR (λh'' hh''=>?_);obtain rfl:h''=⟨k1,k2,k3⟩:=by grind);cbv
      refine dA cc ?_;cbv;refine zE (λe8=>?_) (λe8=>?_)
      ·cbv
       (refine rC ?_;cbv)
       exact zK (by grind)
      {rw[decide_eq_true oM] at h2;cbv;refine⟨zC om om,i+1,⟨om,h2⟩,om,.le ?_ ?_ rfl⟩;{cbv;exact⟨lR,lR,lR,lR,zB om,trivial⟩};{cbv;exact okA}}
     ·subst e7;cbv
      (refine rC ?_;cbv)
      exact zK (by grind)
    ·subst e6;cbv
     (refine rC ?_;cbv)
     exact zK (by grind)
   ·(have hi':i=lo.length:=om;rw[hi',x8] at h2;have h2':r=!bad:=by rw[h2];cases hi.drop lo.length <;> rfl);clear h2
    cbv;refine qO (.frz 3 rfl rfl (by repeat' first|exact trivial|apply And.intro) (by repeat' first|exact trivial|apply And.intro)) rfl (by exact⟨lR,⟨rfl,lR,trivial⟩,trivial⟩) cr rfl ?_;cbv
    (refine rC ?_;cbv)
    exact vF h2'
  ·cbv
   (refine rC ?_;cbv)
   exact zK (hno (by simp only[zA] at e4;exact om))
 ·cbv
  (refine rC ?_;cbv)
  exact zK (hno (by simp only[zA] at e3;exact om))
def tW (q:Qry)(hq:q.sz (2^34)):zD 80 [qv q] (bV q.valid):=by
 refine sF Tryz.f80 ?_;have cg:=F5 q.g (hq.g.mono (by decide));have crg:=FX q.r q.g.n hq.r;have cl:=tX q.goal q.g.vars (hq.goal.mono (by decide));have hul:=hq.g.us.len;have hr:q.valid=(q.g.valid&&q.r.valid q.g.n&&q.goal.valid q.g.vars):=rfl;have hn:q.g.valid=true->1<=q.g.n/\q.g.n<=256:=λh=>by unfold Grp.valid at h;grind
 rw[hr];clear hr hq;obtain⟨⟨n,us,os⟩,⟨lo,hi,rows⟩,⟨ts,c1,c2,c3⟩⟩:=q;simp only at hn hul cg crg cl ⊢;have hv:Grp.vars ⟨n,us,os⟩=n+us.length:=rfl;rw[hv] at cl ⊢;generalize Grp.valid ⟨n,us,os⟩=b1 at *;generalize Reg.valid n ⟨lo,hi,rows⟩=b2 at *;generalize hb3:A.valid (n+us.length) ⟨ts,c1,c2,c3⟩=b3 at *;cbv;refine cA cg ?_;cbv;refine yA (λe6=>?_) (λe6=>?_)
 ·subst e6;have hn':=hn rfl;cbv;refine cA crg ?_;cbv;refine yA (λe7=>?_) (λe7=>?_)
  ·subst e7;cbv;refine⟨zC (by rw[zA];exact om) (by rw[zA];exact om),?_⟩;refine yP rfl (by exact⟨okA,zB (by rw[zA]),trivial⟩) cl rfl ?_;cbv
   (refine rC ?_;cbv)
   exact zX (by rfl)
  {subst e7;cbv;exact rA}
 {subst e6;cbv;exact rA}
end Go.Proofs.YtaeaffgjdcigoaaGreat
