/- A part of the proof: LnB, DtA, HfA, VaA, RwA. -/
import Derived.Test.YtaeaffgjdcigoaaGreatW20
set_option linter.all false
namespace Go.Proofs.YtaeaffgjdcigoaaGreat
open Go
set_option maxRecDepth 100000
set_option maxHeartbeats 1000000
def tY {rs:List ResultVar}{r:PV}{ps ps':PS}{n:Nat}{o:Obj'}(m:Nat)(hw:Wk ps ps')(h3:lv r=true)(h4:yN ps'.objs m=some (wC (ren (λ_=>m)) o))(h5:bF o=true) (h:match bE ps' rs with
  |some l=>les (lU l) (ren (λ_=>m) r)| none=>False):RetOk rs r [] [(n,o)] ps:=by
 cases h1:bE ps' rs with
 |none=>grind| some l=>rw[h1] at h;exact⟨ps',l,λ_=>m,hw,h1,bY h,h3,⟨⟨h4,h5⟩,trivial⟩,rfl,trivial⟩
def bD {rs:List ResultVar}{r:PV}{ps:PS}(ps':PS)(hw:Wk ps ps')(h3:lv r=true) (h:match bE ps' rs with
  |some l=>les (lU l) (ren id r)| none=>False):RetOk rs r [] [] ps:=by
 cases h1:bE ps' rs with
 |none=>grind| some l=>rw[h1] at h;exact⟨ps',l,id,hw,h1,bY h,h3,trivial,rfl,trivial⟩
def wP {p:Prop}[Decidable p]{A B:Unit->Prop}(h:p)(h1:A ()):Br (λ_=>decide p) A B:=zQ (λ_=>h1) (λg=>(g h).elim)
def yC {p:Prop}[Decidable p]{A B:Unit->Prop}(h:¬p)(h1:B ()):Br (λ_=>decide p) A B:=zQ (λg=>(h g).elim) (λ_=>h1)
def vC {p:Prop}[Decidable p]{A B:(Exit->PS->Prop)->Prop}{Q:Exit->PS->Prop}(h:p)(h1:A Q):Cut (λ_=>decide p) A B Q:=zF (λ_=>h1) (λg=>(g h).elim)
def yE {p:Prop}[Decidable p]{A B:(Exit->PS->Prop)->Prop}{Q:Exit->PS->Prop}(h:¬p)(h1:B Q):Cut (λ_=>decide p) A B Q:=zF (λg=>(h g).elim) (λ_=>h1)
def pcr (l:List (Int×Rat)) (v:Int) (q:Rat):List (Int×Rat):=if q=0 then l else l++[(v,q)]
def fX (l:List (Int×Rat))(v:Int)(q:Rat)(r):pcr l v q++r=l++pc v q r:=by grind [pcr,pc]
abbrev avo (n len:Nat) (c:R):PV:=.agg [yX n 4 len,zL c.neg,nat c.num,nat c.den]
theorem vD (l:List (Int×Rat)):(tR l).length=l.length:=by simp[tR]
def DI (l m:List (Int×Rat)):tR (l++m)=tR l++tR m:=by simp[tR]
def H5:ty 30=.sli 4 64 [iV 0,.ff,.nil,.nil]:=by cbv
def XF (l:List (Int×Rat))(c:R)(v:Int)(x:R)(hx:x.sz (2^36))(hl:l.length<2^39):Sound 268 [avo 100 l.length c,iV v,rv x] [] [(100,xF 4 (enc tc (tR l)))] (avo 100 (pcr l v x.q).length c) [] [(100,xF 4 (enc tc (tR (pcr l v x.q))))]:=by refine sF Tryz.f268 ?_;have cs:=s86 x (by have:=hx.n;omega);have cc:=Sz x hx;have h1:yA x.q≠0->pcr l v x.q=l++[(v,x.q)]:=λh=>if_neg (sgnQ_ne.1 h);have h2:¬yA x.q≠0->pcr l v x.q=l:=λh=>if_pos (by grind [sgnQ_ne]);generalize pcr l v x.q=P at *;generalize hsg:yA x.q=sg at *;generalize hq:x.q=q at *;have hR:tR [(v,q)]=[(v,zI q)]:=rfl;generalize zI q=W at *;obtain⟨x1,x2,x3⟩:=x;obtain⟨w1,w2,w3⟩:=W;obtain⟨c1,c2,c3⟩:=c;clear hq hsg;cbv;refine cA cs ?_;cbv;refine zF (λh=>?_) (λh=>?_);{have hP:=h2 oM;clear h1 h2;subst hP;cbv;exact tY 100 (.refl _) rfl rfl rfl (by cbv;exact okA)};{have hP:=h1 oM;clear h1 h2;subst hP;cbv;refine zM 7 (by cbv) ?_;cbv;refine dA cc ?_;cbv;refine wM H5 rfl rfl rfl (by simp only[zA,vD]) rfl ⟨by simp[zW,xT]⟩ (z8 oM (by simp only[zA,vD,zW,rK,dO];omega)) rfl ?_;cbv;refine tY (ps':=⟨[(6,.ptr 6 0)],[(6,.box [yX 17 4 ((l++[(v,q)]).length),zL c1,nat c2,nat c3]),(17,xF 4 (enc tc (tR (l++[(v,q)]))))]⟩) 17 (.le ?_ ?_ rfl) rfl rfl rfl ?_;{cbv;exact okA};{cbv;exact⟨⟨zT rfl (by simp[zA,vD,zW]),lR,lR,lR,trivial⟩,zG (by rw[DI,hR,<-j6];rfl),trivial⟩};{cbv;exact okA}}
def fW (l:List (Int×Rat))(v:Int)(q:Rat):(pcr l v q).length<=l.length+1:=by grind [pcr]
def g9 {α:Type}{p:α->List PV}{n:Nat}{a:α}{l:List α}{K:List PV->Prop}(hf:∀ a,yT qO (p a)=true)(hn:∀ a,(p a).length=n)(hK:K (p a)):IdxOk n (λ_=>enc p (a::l)) (λ_=>0) K :=
 xQ 0 rfl (by simp) hf hn (λb hb=>by grind)
def aI (t:Int×R)(l):tq (t::l)=(t.1,t.2.q)::tq l:=rfl
def XG (f g:A)(c:R)(hf:f.sz (2^33))(hg:g.sz (2^33))(hc:c.sz (2^33)):zC 226 [av f,av g,rv c] (fv (f.f.merge g.f c.q)):=by
 refine sF Tryz.f226 ?_;obtain⟨ts,fc⟩:=f;obtain⟨us,gc⟩:=g;have hlt:=hf.t.len;have hlu:=hg.t.len;have hst:=hf.t.sz;have hsu:=hg.t.sz;have hfc:=hf.c;have hgc:=hg.c;have cfc:=hfc.fits (by decide);have cgc:=hgc.fits (by decide);have ccf:=hc.fits (by decide);simp only at hlt hlu hst hsu hfc hgc cfc cgc;have cm:=NJ gc c (hgc.mono (by decide)) (hc.mono (by decide));have ca:=TD fc (zI (gc.q*c.q)) (hfc.mono (by decide)) (zU ((y8 cgc ccf).mono (by decide)));rw[z6] at ca;show wp _ _ (dU _ (.agg [tsv (tR (mrg c.q (tq ts) (tq us))),zL ((zI (fc.q+gc.q*c.q)).neg),nat (zI (fc.q+gc.q*c.q)).num,nat (zI (fc.q+gc.q*c.q)).den]) [] []);generalize zI (fc.q+gc.q*c.q)=W at *;generalize zI (gc.q*c.q)=V at *;generalize hM:mrg c.q (tq ts) (tq us)=M;have hmul:∀ b:Int×R,b∈us->zC 267 [rv b.2,rv c] (rv (zI (b.2.q*c.q))):=λb hb=>NJ b.2 c ((hsu b hb).mono (by decide)) (hc.mono (by decide));have hmsz:∀ b:Int×R,b∈us->(zI (b.2.q*c.q)).sz (2^34):=λb hb=>zU ((y8 ((hsu b hb).fits (by decide)) ccf).mono (by decide));have hadd:∀ (a b:Int×R),a∈ts->b∈us->zC 266 [rv a.2,rv (zI (b.2.q*c.q))] (rv (zI (a.2.q+b.2.q*c.q))):=λa b ha hb=>by have:=TD a.2 (zI (b.2.q*c.q)) ((hst a ha).mono (by decide)) ((hmsz b hb).mono (by decide));rw[z6] at this;omega
 have hasz:∀ (a b:Int×R),a∈ts->b∈us->(zI (a.2.q+b.2.q*c.q)).sz (2^36):=λa b ha hb=>zU ((kC ((hst a ha).fits (by decide)) (y8 ((hsu b hb).fits (by decide)) ccf)).mono (by decide));clear hf hg cfc cgc hfc hgc;generalize hcq:c.q=cq at *;obtain⟨w1,w2,w3⟩:=W;obtain⟨fc1,fc2,fc3⟩:=fc;obtain⟨gc1,gc2,gc3⟩:=gc;obtain⟨c1,c2,c3⟩:=c;cbv;refine qV 9 (by cbv) (by cbv) ?_;cbv;refine dA cm ?_;cbv;refine dA ca ?_;cbv;refine zM 5 (by cbv) ?_;cbv;refine z7 (σ:=List (Int×Rat)×List (Int×R)×List (Int×R)) (λs=>⟨[(5,.ptr 5 0),(6,.ptr 6 0),(7,.ptr 7 0),(8,tsv s.2.1),(9,tsv s.2.2)],[(5,.box [zL c1,nat c2,nat c3]),(6,.box [.nil,.ff,.nil,.nil]),(7,.box [yX 200 4 s.1.length,zL w1,nat w2,nat w3]),(200,xF 4 (enc tc (tR s.1)))]⟩)
  (λs=>M=s.1++mrg cq (tq s.2.1) (tq s.2.2)/\s.1.length+(s.2.1.length+s.2.2.length)<=ts.length+us.length/\(∀ t,t∈s.2.1->t∈ts)/\(∀ t,t∈s.2.2->t∈us)) (λs=>s.2.1.length+s.2.2.length)
  ([],ts,us) ⟨hM.symm,by simp,λ_ h=>h,λ_ h=>h⟩
  (.trans (.le (ps':=⟨[(5,.ptr 5 0),(6,.ptr 6 0),(7,.ptr 7 0),(8,tsv ts),(9,tsv us)],[(5,.box [zL c1,nat c2,nat c3]),(6,.box [.nil,.ff,.nil,.nil]),(7,.box [.nil,zL w1,nat w2,nat w3])]⟩) ?_ ?_ rfl) (.trans (.adoptB (ps:=⟨[(5,.ptr 5 0),(6,.ptr 6 0),(7,.ptr 7 0),(8,tsv ts),(9,tsv us)],[(5,.box [zL c1,nat c2,nat c3]),(6,.box [.nil,.ff,.nil,.nil]),(7,.box [.nil,zL w1,nat w2,nat w3])]⟩) (cs:=[.nil,zL w1,nat w2,nat w3]) 200 4 7 0 rfl rfl rfl) (.le ?_ ?_ rfl))) ?_
 {cbv;exact okA};{cbv;exact okA};{cbv;exact okA};{cbv;exact⟨okA,okA,⟨zT rfl rfl,lR,lR,lR,trivial⟩,zG rfl,trivial⟩};intro s hs;obtain⟨hI,hL,hA,hB⟩:=hs;generalize s.1=out at *;generalize s.2.1=aa at *;generalize s.2.2=bb at *;cases aa with
 |nil =>
  cases bb with
  |nil =>
   (cbv;refine yC (by simp[zA]) ?_;cbv;refine yE (by simp[zA]) ?_;cbv;have hM':M=out:=by rw[hI,show tq []=[] from rfl,mrg,jV]);subst hM'
   refine bD _ (.trans (.le (ps':=⟨[(6,.ptr 6 0)],[(6,.box [yX 200 4 M.length,zL w1,nat w2,nat w3]),(200,xF 4 (enc tc (tR M)))]⟩) ?_ ?_ rfl) (.frz 200 rfl rfl ?_ ?_)) rfl ?_;{cbv;exact okA};{cbv;exact⟨okA,zG rfl,trivial⟩};{exact⟨trivial,trivial⟩};{cbv;exact⟨⟨zZ (by simp[zA,vD]),trivial⟩,trivial⟩};{cbv;exact⟨zR (yU (by simp[zA,vD])),lR,lR,lR,trivial⟩}
  |cons b bs =>
   (have hb:=hB b wI;have cmb:=hmul b hb;have cpb:=XF out ⟨w1,w2,w3⟩ b.1 (zI (b.2.q*cq)) ((hmsz b hb).mono (by decide)) oM;rw[z6] at cpb;have hI':M=pcr out b.1 (b.2.q*cq)++mrg cq (tq []) (tq bs):=by rw[hI,aI,show tq []=[] from rfl,mrg,fX]);have hpl:=fW out b.1 (b.2.q*cq)
   generalize pcr out b.1 (b.2.q*cq)=out' at *;generalize zI (b.2.q*cq)=X at *;cbv;refine yC (by simp[zA]) ?_;cbv;refine vC (by simp[zA] <;> omega) ?_;cbv;refine zM 20 (by cbv) ?_;cbv;refine yC (by simp[zA] <;> omega) ?_;cbv;refine yC (by simp[zA]) ?_;cbv;refine zM 15 (by cbv) ?_;cbv;refine wP (by simp[zA]) ?_;cbv;refine zM 11 (by cbv) ?_;cbv;refine g9 wT wO ?_;cbv;refine g9 wT wO ?_;cbv;refine dA cmb ?_;cbv;refine kA (λ_=>200) cpb ?_;cbv;refine⟨vF (by decide) (by simp[zA] <;> omega) (by simp[zA]),xE wO _,?_⟩;cbv;refine⟨(out',[],bs),⟨hI',by simp at hL hpl ⊢;omega,hA,λt ht=>hB t (wJ _ ht)⟩,by simp,.le ?_ ?_ rfl⟩;{cbv;exact⟨lR,lR,lR,lR,zR (by simp[enc,yU]),trivial⟩};{cbv;exact⟨okA,okA,okA,zG rfl,trivial⟩}
 |cons a aa =>
  have ha:=hA a wI;cases bb with
  |nil =>
   (have cp:=XF out ⟨w1,w2,w3⟩ a.1 a.2 ((hst a ha).mono (by decide)) oM;have hI':M=pcr out a.1 a.2.q++mrg cq (tq aa) (tq []):=by rw[hI,aI,show tq []=[] from rfl,mrg,fX]);have hpl:=fW out a.1 a.2.q
   generalize pcr out a.1 a.2.q=out' at *;cbv;refine wP (by simp[zA] <;> omega) ?_;cbv;refine zM 20 (by cbv) ?_;cbv;refine wP (by simp[zA]) ?_;cbv;refine zM 9 (by cbv) ?_;cbv;refine g9 wT wO ?_;cbv;refine g9 wT wO ?_;cbv;refine kA (λ_=>200) cp ?_;cbv;refine⟨vF (by decide) (by simp[zA] <;> omega) (by simp[zA]),xE wO _,?_⟩;cbv;refine⟨(out',aa,[]),⟨hI',by simp at hL hpl ⊢;omega,λt ht=>hA t (wJ _ ht),hB⟩,by simp,.le ?_ ?_ rfl⟩;{cbv;exact⟨lR,lR,lR,zR (by simp[enc,yU]),lR,trivial⟩};{cbv;exact⟨okA,okA,okA,zG rfl,trivial⟩}
  |cons b bb =>
   have hb:=hB b wI;cbv;refine wP (by grind [zA]) ?_;cbv;refine zM 20 (by cbv) ?_;cbv;refine yC (by grind [zA]) ?_;cbv;refine wP (by grind [zA]) ?_;cbv;refine g9 wT wO ?_;cbv;refine g9 wT wO ?_;cbv;refine zF (λhlt=>?_) (λhlt=>?_)
   ·(have cp:=XF out ⟨w1,w2,w3⟩ a.1 a.2 ((hst a ha).mono (by decide)) oM;have hI':M=pcr out a.1 a.2.q++mrg cq (tq aa) (tq (b::bb)):=by rw[hI,aI,aI,mrg,if_pos (show (a.1,a.2.q).1<(b.1,b.2.q).1 from hlt),fX]);have hpl:=fW out a.1 a.2.q
    generalize pcr out a.1 a.2.q=out' at *;cbv;refine zM 9 (by cbv) ?_;cbv;refine g9 wT wO ?_;cbv;refine g9 wT wO ?_;cbv;refine kA (λ_=>200) cp ?_;cbv;refine⟨vF (by decide) (by simp[zA] <;> omega) (by simp[zA]),xE wO _,?_⟩;cbv;refine⟨(out',aa,b::bb),⟨hI',by simp at hL hpl ⊢;omega,λt ht=>hA t (wJ _ ht),hB⟩,by simp,.le ?_ ?_ rfl⟩;{cbv;exact⟨lR,lR,lR,zR (by simp[enc,yU]),lR,trivial⟩};{cbv;exact⟨okA,okA,okA,zG rfl,trivial⟩}
   ·cbv;refine zM 15 (by cbv) ?_;cbv;refine yC (by grind [zA]) ?_;cbv;refine g9 wT wO ?_;cbv;refine g9 wT wO ?_;cbv;refine zF (λhlt2=>?_) (λhlt2=>?_)
    ·(have cmb:=hmul b hb;have cp:=XF out ⟨w1,w2,w3⟩ b.1 (zI (b.2.q*cq)) ((hmsz b hb).mono (by decide)) oM;rw[z6] at cp;have hI':M=pcr out b.1 (b.2.q*cq)++mrg cq (tq (a::aa)) (tq bb):=by rw[hI,aI,aI,mrg,if_neg (show ¬(a.1,a.2.q).1<(b.1,b.2.q).1 from hlt),if_pos (show (b.1,b.2.q).1<(a.1,a.2.q).1 from hlt2),fX]);have hpl:=fW out b.1 (b.2.q*cq)
     generalize pcr out b.1 (b.2.q*cq)=out' at *;generalize zI (b.2.q*cq)=X at *;cbv;refine zM 11 (by cbv) ?_;cbv;refine g9 wT wO ?_;cbv;refine g9 wT wO ?_;cbv;refine dA cmb ?_;cbv;refine kA (λ_=>200) cp ?_;cbv;refine⟨vF (by decide) (by simp[zA] <;> omega) (by simp[zA]),xE wO _,?_⟩;cbv;refine⟨(out',a::aa,bb),⟨hI',by simp at hL hpl ⊢;omega,hA,λt ht=>hB t (wJ _ ht)⟩,by simp,.le ?_ ?_ rfl⟩;{cbv;exact⟨lR,lR,lR,lR,zR (by simp[enc,yU]),trivial⟩};{cbv;exact⟨okA,okA,okA,zG rfl,trivial⟩}
    ·(have cmb:=hmul b hb;have cab:=hadd a b ha hb;have cp:=XF out ⟨w1,w2,w3⟩ a.1 (zI (a.2.q+b.2.q*cq)) ((hasz a b ha hb).mono (by decide)) oM;rw[z6] at cp;have hI':M=pcr out a.1 (a.2.q+b.2.q*cq)++mrg cq (tq aa) (tq bb):=by rw[hI,aI,aI,mrg,if_neg (show ¬(a.1,a.2.q).1<(b.1,b.2.q).1 from hlt),if_neg (show ¬(b.1,b.2.q).1<(a.1,a.2.q).1 from hlt2),fX]);have hpl:=fW out a.1 (a.2.q+b.2.q*cq)
     generalize pcr out a.1 (a.2.q+b.2.q*cq)=out' at *;generalize zI (a.2.q+b.2.q*cq)=Y at *;generalize zI (b.2.q*cq)=X at *;cbv;refine zM 16 (by cbv) ?_;cbv;refine g9 wT wO ?_;cbv;refine g9 wT wO ?_;cbv;refine g9 wT wO ?_;cbv;refine dA cmb ?_;cbv;refine dA cab ?_;cbv;refine kA (λ_=>200) cp ?_;cbv;refine zM 5 (by cbv) ?_;cbv;refine⟨vF (by decide) (by simp[zA] <;> omega) (by simp[zA]),xE wO _,?_⟩;cbv;refine⟨vF (by decide) (by simp[zA] <;> omega) (by simp[zA]),xE wO _,?_⟩;cbv;refine⟨(out',aa,bb),⟨hI',by simp at hL hpl ⊢;omega,λt ht=>hA t (wJ _ ht),λt ht=>hB t (wJ _ ht)⟩,by simp <;> omega,.le ?_ ?_ rfl⟩;{cbv;exact⟨lR,lR,lR,zR (by simp[enc,yU]),zR (by simp[enc,yU]),trivial⟩};{cbv;exact⟨okA,okA,okA,zG rfl,trivial⟩}
def oS (z:Int)(h1:-1000<=z)(h2:z<=1000):(zI (z:Rat)).sz 1:=zU (Wu (by show z.natAbs<4294967296^1;omega) (by decide))
def J7 (f g:A)(hf:f.sz (2^33))(hg:g.sz (2^33)):zC 231 [av f,av g] (fv (f.f.add g.f)):=by refine sF Tryz.f231 ?_;have c1:=Cd 1 (by decide) (by decide);have cm:=XG f g (zI ((1:Int):Rat)) hf hg ((oS 1 (by decide) (by decide)).mono (by decide));rw[z6] at cm;have e:f.f.merge g.f ((1:Int):Rat)=f.f.add g.f:=rfl;rw[e] at cm;generalize fA (f.f.add g.f)=W at *;generalize zI ((1:Int):Rat)=o at *;obtain⟨ft,f1,f2,f3⟩:=f;obtain⟨gt,g1,g2,g3⟩:=g;obtain⟨wt,w1,w2,w3⟩:=W;cbv;refine zM 4 (by cbv) ?_;cbv;refine dA c1 ?_;cbv;refine dA cm ?_;cbv;exact rA
def sO (f g:A)(hf:f.sz (2^33))(hg:g.sz (2^33)):zC 185 [av f,av g] (fv (f.f.sub g.f)):=by refine sF Tryz.f185 ?_;have c1:=Cd (-1) (by decide) (by decide);have cm:=XG f g (zI ((-1:Int):Rat)) hf hg ((oS (-1) (by decide) (by decide)).mono (by decide));rw[z6] at cm;have e:f.f.merge g.f ((-1:Int):Rat)=f.f.sub g.f:=rfl;rw[e] at cm;generalize fA (f.f.sub g.f)=W at *;generalize zI ((-1:Int):Rat)=o at *;obtain⟨ft,f1,f2,f3⟩:=f;obtain⟨gt,g1,g2,g3⟩:=g;obtain⟨wt,w1,w2,w3⟩:=W;cbv;refine zM 4 (by cbv) ?_;cbv;refine dA c1 ?_;cbv;refine dA cm ?_;cbv;exact rA
def mO (f:A)(c:R)(hf:f.sz (2^33))(hc:c.sz (2^33)):zC 186 [av f,rv c] (fv (f.f.scale c.q)):=by refine sF Tryz.f186 ?_;have cm:=XG ⟨[],⟨false,[],[]⟩⟩ f c ⟨⟨by decide,λ_ h=>absurd h (by simp)⟩,⟨by decide,by decide⟩⟩ hf hc;have e:(A.f ⟨[],⟨false,[],[]⟩⟩).merge f.f c.q=f.f.scale c.q:=rfl;rw[e] at cm;generalize fA (f.f.scale c.q)=W at *;obtain⟨ft,f1,f2,f3⟩:=f;obtain⟨c1,c2,c3⟩:=c;obtain⟨wt,w1,w2,w3⟩:=W;cbv;refine yJ rfl okA cm rfl ?_;cbv;exact rA
structure Row where
 k:Int
 i:Int
 lo:Int
 hi:Int
deriving DecidableEq
structure Mult where
 row:Row
 c:R
deriving DecidableEq
structure Dec where
 k:Int
 i:Int
 x:R
structure Lem where
 u:Int
 up:Bool
 v:R
 pf:List Mult
structure Grp where
 n:Int
 us:List A
 os:List A
structure Reg where
 lo:List R
 hi:List R
 rows:List A
structure Qry where
 g:Grp
 r:Reg
 goal:A
structure Scp where
 q:Qry
 path:List Dec
 lems:List Lem
abbrev rlv (l:List R):PV:=.sl (λ_=>enc rc l)
abbrev alv (l:List A):PV:=.sl (λ_=>enc ac l)
abbrev rwc (r:Row):List PV:=[iV r.k,iV r.i,iV r.lo,iV r.hi]
abbrev rwv (r:Row):PV:=.agg [iV r.k,iV r.i,iV r.lo,iV r.hi]
def mc (m:Mult):List PV:=[iV m.row.k,iV m.row.i,iV m.row.lo,iV m.row.hi,zL m.c.neg,nat m.c.num,nat m.c.den]
abbrev mv (m:Mult):PV:=.agg [iV m.row.k,iV m.row.i,iV m.row.lo,iV m.row.hi,zL m.c.neg,nat m.c.num,nat m.c.den]
abbrev mlv (l:List Mult):PV:=.sl (λ_=>enc mc l)
def dc (d:Dec):List PV:=[iV d.k,iV d.i,zL d.x.neg,nat d.x.num,nat d.x.den]
abbrev dv (d:Dec):PV:=.agg [iV d.k,iV d.i,zL d.x.neg,nat d.x.num,nat d.x.den]
abbrev dlv (l:List Dec):PV:=.sl (λ_=>enc dc l)
def lc (l:Lem):List PV:=[iV l.u,zL l.up,zL l.v.neg,nat l.v.num,nat l.v.den,mlv l.pf]
abbrev lv' (l:Lem):PV:=.agg [iV l.u,zL l.up,zL l.v.neg,nat l.v.num,nat l.v.den,mlv l.pf]
abbrev llv (l:List Lem):PV:=.sl (λ_=>enc lc l)
abbrev gv (g:Grp):PV:=.agg [iV g.n,alv g.us,alv g.os]
abbrev rgv (r:Reg):PV:=.agg [rlv r.lo,rlv r.hi,alv r.rows]
abbrev qv (q:Qry):PV:=.agg [iV q.g.n,alv q.g.us,alv q.g.os,rlv q.r.lo,rlv q.r.hi,alv q.r.rows,tsv q.goal.ts,zL q.goal.c.neg,nat q.goal.c.num,nat q.goal.c.den]
abbrev sv (s:Scp):PV:=.agg [iV s.q.g.n,alv s.q.g.us,alv s.q.g.os,rlv s.q.r.lo,rlv s.q.r.hi,alv s.q.r.rows,tsv s.q.goal.ts,zL s.q.goal.c.neg,nat s.q.goal.c.num,nat s.q.goal.c.den,dlv s.path,llv s.lems]
def sc (s:Scp):List PV:=[iV s.q.g.n,alv s.q.g.us,alv s.q.g.os,rlv s.q.r.lo,rlv s.q.r.hi,alv s.q.r.rows,tsv s.q.goal.ts,zL s.q.goal.c.neg,nat s.q.goal.c.num,nat s.q.goal.c.den,dlv s.path,llv s.lems]
def vA (a:Mult):yT qO (mc a)=true:=rfl
def xS (a:Mult):(mc a).length=7:=rfl
def uF (a:Dec):yT qO (dc a)=true:=rfl
def qP (a:Dec):(dc a).length=5:=rfl
def xB (a:Lem):yT qO (lc a)=true:=rfl
def y7 (a:Lem):(lc a).length=6:=rfl
structure Asz (k:Nat) (l:List A):Prop where
 len:l.length<2^38
 sz:∀ a,a∈l->a.sz k
structure Rsz (k:Nat) (l:List R):Prop where
 len:l.length<2^38
 sz:∀ a,a∈l->a.sz k
structure Msz (k:Nat) (l:List Mult):Prop where
 len:l.length<2^38
 sz:∀ a,a∈l->a.c.sz k
structure Dsz (k:Nat) (l:List Dec):Prop where
 len:l.length<2^38
 sz:∀ a,a∈l->a.x.sz k
structure Lsz (k:Nat) (l:List Lem):Prop where
 len:l.length<2^38
 sz:∀ a,a∈l->a.v.sz k
 pf:∀ a,a∈l->Msz k a.pf
structure Grp.sz (g:Grp) (k:Nat):Prop where
 us:Asz k g.us
 os:Asz k g.os
structure Reg.sz (r:Reg) (k:Nat):Prop where
 lo:Rsz k r.lo
 hi:Rsz k r.hi
 rows:Asz k r.rows
structure Qry.sz (q:Qry) (k:Nat):Prop where
 g:q.g.sz k
 r:q.r.sz k
 goal:q.goal.sz k
structure Scp.sz (s:Scp) (k:Nat):Prop where
 q:s.q.sz k
 path:Dsz k s.path
 lems:Lsz k s.lems
theorem Asz.mono {k m:Nat}{l}(h:Asz k l)(hm:k<=m):Asz m l:=⟨h.len,λa ha=>(h.sz a ha).mono hm⟩
theorem Rsz.mono {k m:Nat}{l}(h:Rsz k l)(hm:k<=m):Rsz m l:=⟨h.len,λa ha=>(h.sz a ha).mono hm⟩
theorem Msz.mono {k m:Nat}{l}(h:Msz k l)(hm:k<=m):Msz m l:=⟨h.len,λa ha=>(h.sz a ha).mono hm⟩
theorem Dsz.mono {k m:Nat}{l}(h:Dsz k l)(hm:k<=m):Dsz m l:=⟨h.len,λa ha=>(h.sz a ha).mono hm⟩
theorem Lsz.mono {k m:Nat}{l}(h:Lsz k l)(hm:k<=m):Lsz m l:=⟨h.len,λa ha=>(h.sz a ha).mono hm,λa ha=>(h.pf a ha).mono hm⟩
theorem Grp.sz.mono {k m:Nat}{g:Grp}(h:g.sz k)(hm:k<=m):g.sz m:=⟨h.us.mono hm,h.os.mono hm⟩
theorem Reg.sz.mono {k m:Nat}{g:Reg}(h:g.sz k)(hm:k<=m):g.sz m:=⟨h.lo.mono hm,h.hi.mono hm,h.rows.mono hm⟩
theorem Qry.sz.mono {k m:Nat}{g:Qry}(h:g.sz k)(hm:k<=m):g.sz m:=⟨h.g.mono hm,h.r.mono hm,h.goal.mono hm⟩
theorem Scp.sz.mono {k m:Nat}{g:Scp}(h:g.sz k)(hm:k<=m):g.sz m:=⟨h.q.mono hm,h.path.mono hm,h.lems.mono hm⟩
def vU:Int->List A->Bool
 |_,[]=>true| k,f::r=>f.valid k&&vU (k+1) r
def Grp.vars (g:Grp):Int:=g.n+g.us.length
def Grp.valid (g:Grp):Bool:=decide (1<=g.n/\g.n<=256/\g.us.length<=1024/\1<=g.os.length/\g.os.length<=256)&&vU g.n g.us&&g.os.all (A.valid g.vars)
def vB:List R->List R->Bool
 |l::ls,h::hs=>l.ok&&h.ok&&decide (uV l.q h.q<=0)&&vB ls hs| _,_=>true
def Reg.valid (n:Int) (r:Reg):Bool:=decide (1<=n/\n<=256/\(r.lo.length:Int)=n/\(r.hi.length:Int)=n/\r.rows.length<=256)&&vB r.lo r.hi&&r.rows.all (A.valid n)
def Qry.valid (q:Qry):Bool:=q.g.valid&&q.r.valid q.g.n&&q.goal.valid q.g.vars
def Dec.fits (q:Qry) (d:Dec):Bool :=
 if d.k=1\/d.k=2 then decide (0<=d.i/\d.i<q.g.us.length)&&decide (d.x=⟨false,[],[]⟩)
 else if d.k=3\/d.k=4 then decide (0<=d.i/\d.i<q.g.n)&&d.x.ok
 else false
def v6 {α:Type} (P:α->Bool):List α->Int
 |[]=>-1| a::r=>if P a then 0 else if v6 P r<0 then -1 else v6 P r+1
def aS {α:Type}(P:α->Bool):∀ l:List α,-1<=v6 P l
 |[]=>by simp[v6]| a::r=>by grind [v6]
def Wq {α:Type}(P:α->Bool):∀ l:List α,0<=v6 P l↔l.any P=true
 |[]=>by simp[v6]| a::r=>by have ih:=Wq P r;rw[List.any_cons,Va,<-ih];rw[show v6 P (a::r)=if P a then 0 else if v6 P r<0 then -1 else v6 P r+1 from rfl];grind
def K1 {α:Type}(P:α->Bool)(l:List α):decide (0<=v6 P l)=l.any P:=by rw[r8,decide_eq_true_eq,Wq]
def les_refl:∀ a:PV,les a a
 |.agg cs=>allLe_refl1 cs| .tup cs=>allLe_refl1 cs| .fn f cs=>⟨nqb_self f,allLe_refl1 cs⟩| .int k n=>lR| .tt=>lR| .ff=>lR| .bool b=>lR| .nbool b=>lR| .str s=>lR| .nil=>lR| .sl els=>lR| .ptr n o=>lR| .aptr n s i o=>lR| .dptr cs o=>lR| .osl n s o l=>lR| .nilf=>lR| .nilp=>lR| .mpv n=>lR| .emp=>lR| .any=>lR
where
 les1_refl:∀ a:PV,KO a a
  |.agg cs=>allLeS_refl cs| .tup cs=>allLeS_refl cs| .fn f cs=>lR| .int k n=>lR| .tt=>lR| .ff=>lR| .bool b=>lR| .nbool b=>lR| .str s=>lR| .nil=>lR| .sl els=>lR| .ptr n o=>lR| .aptr n s i o=>lR| .dptr cs o=>lR| .osl n s o l=>lR| .nilf=>lR| .nilp=>lR| .mpv n=>lR| .emp=>lR| .any=>lR
 allLeS_refl:∀ l:List PV,jG LeS l l
  |[]=>trivial| a::r=>⟨m0 a,allLeS_refl r⟩
 allLe_refl1:∀ l:List PV,jG KO l l
  |[]=>trivial| a::r=>⟨les1_refl a,allLe_refl1 r⟩
def lE:∀ l:List PV,jG les l l
 |[]=>trivial| a::r=>⟨les_refl a,lE r⟩
theorem dX (l:List PV):jG KO l l:=les_refl.allLe_refl1 l
def Vg (T:List (Nat×PV)):List Nat->List (Nat×PV)
 |[]=>[]| t::r=>(t,zE T t)::Vg T r
def lS (O:List (Nat×Obj')):List Nat->List (Nat×Obj')
 |[]=>[]
 |n::r=>(match yN O n with
  |some o=>(n,o)::lS O r| none=>lS O r)
def ndN:List Nat->Bool
 |[]=>true| n::r=>!(yH n r)&&ndN r
def K4:∀ (hs:List (PV×(Unit->Nat))),hLe hs hs
 |[]=>trivial| (v,k)::r=>⟨⟨lR,lR⟩,K4 r⟩
def Hp:∀ o:Obj',Vc o o
 |.mat s r hs=>⟨nqb_self s,⟨rfl⟩,K4 hs⟩| .mp t k=>⟨nqb_self t,⟨rfl⟩⟩| .box cs=>lE cs| .arr s e=>⟨nqb_self s,⟨rfl⟩⟩| .log s e=>⟨nqb_self s,⟨rfl⟩⟩| .lent s e=>⟨nqb_self s,⟨rfl⟩⟩
def GT (T:List (Nat×PV)):∀ L,leT T (Vg T L)
 |[]=>trivial| t::r=>⟨les_refl _,GT T r⟩
def Qk (O:List (Nat×Obj')):∀ M,leO O (lS O M)
 |[]=>trivial| n::r=>by
  unfold lS;cases h:yN O n with
  |none=>exact Qk O r| some o =>
   refine⟨?_,Qk O r⟩;rw[h];exact Hp o
def Wr (O:List (Nat×Obj'))(m:Nat):∀ M,yH m M=false->F5 m (lS O M)=false
 |[],_=>rfl| n::r,h=>by
  simp only[yH,Fm] at h;unfold lS;cases yN O n with
  |none=>exact Wr O m r h.2| some o =>
   simp only[F5,Fm];refine⟨?_,Wr O m r h.2⟩;grind
def Qd (O:List (Nat×Obj')):∀ M,ndN M=true->ndO (lS O M)=true
 |[],_=>rfl| n::r,h=>by
  simp only[ndN,yP,YF] at h;unfold lS;cases yN O n with
  |none=>exact Qd O r h.2| some o =>
   simp only[ndO,yP,YF];exact⟨Wr O n r h.1,Qd O r h.2⟩
theorem Wk.sel (ps:PS)(L M:List Nat)(h:ndN M=true):Wk ps ⟨Vg ps.tmps L,lS ps.objs M⟩:=.le (GT _ _) (Qk _ _) (Qd _ _ h)
def t5 {g as_ dst ps K f caps args' r}(L M:List Nat)(hM:ndN M=true)(h1:ev (zE (Vg ps.tmps L)) g=.fn f caps)(h2:jG les (evs (ev (zE (Vg ps.tmps L))) as_++caps) args')(h3:zC f args' r)(h5:nmIn [] r=true) (h4:K (put ⟨Vg ps.tmps L,lS ps.objs M⟩ dst r)):CallOk g as_ dst ps K:=qR (Wk.sel ps L M hM) h1 h2 h3 h5 h4
def WC {ops:List Oper}{ps:PS}{K:PS->Prop}(k:Nat)(L M:List Nat)(hM:ndN M=true)(hd:b9 ops k=true)(h:Zl ops [] (yI (ops.take k)) (lS ps.objs M) (ops.take k) 0 (Vg ps.tmps L) (lS ps.objs M) (λT O=>Yu (yI (ops.take k)) T (jE ops (ops.drop k) ⟨T,O⟩ K)))(hm:(ndO (yI (ops.take k))&&Vn ⟨Vg ps.tmps L,lS ps.objs M⟩ (yI (ops.take k)))=true:=by cbv):DrawK ops ps K :=
 .ef k [] _ (Wk.sel ps L M hM) hd rfl hm h
def WE {ops:List Oper}{ps:PS}{K:PS->Prop}(k:Nat)(L M:List Nat)(hM:ndN M=true)(hd:b9 ops k=true)(hm:(ndO (yI (ops.take k))&&Vn ⟨Vg ps.tmps L,lS ps.objs M⟩ (yI (ops.take k)))=true) (h:Zl ops [] (yI (ops.take k)) (lS ps.objs M) (ops.take k) 0 (Vg ps.tmps L) (lS ps.objs M) (λT O=>Yu (yI (ops.take k)) T (jE ops (ops.drop k) ⟨T,O⟩ K))):DrawK ops ps K :=
 .ef k [] _ (Wk.sel ps L M hM) hd rfl hm h
def Nv (P:A->Bool)(l:List A)(hl:l.length<2^40)(g:FuncId)(caps:List PV)(hg:∀ a,a∈l->zC g (.agg (ac a)::caps) (zL (P a))):zC 245 [.sl (λ_=>enc ac l),.fn g caps] (iV (v6 P l)):=by
 refine sF Tryz.f245 ?_;generalize hr:v6 P l=r;cbv;refine z7 (σ:=Nat) (λi=>⟨[(0,.sl (λ_=>enc ac l)),(1,.fn g caps),(7,iV l.length),(8,iV i)],[]⟩)
  (λi=>i<=l.length/\r=(if v6 P (l.drop i)<0 then -1 else v6 P (l.drop i)+i)) (λi=>l.length-i) 0 ⟨om,?_⟩ (.le ?_ ?_ rfl) ?_
 {rw[wZ,hr];have:=aS P l;omega};{cbv;exact⟨lR,(by cases caps <;> first|trivial|grind [les_refl.les1_refl,dX]),zB (by (try dsimp only [zV] at *);rw[zA]),lR,trivial⟩};{cbv};intro i hs;obtain⟨h1,h2⟩:=hs;cbv;refine zF (λh5=>?_) (λh5=>?_)
 ·cbv;refine xQ (l:=l) i (by (grind) <;> (try simp only[zH] at *) <;> omega) om j7 cJ (λt ht=>?_);have hc:=hg t (z3 ht);rw[zY ht,show v6 P (t::l.drop (i+1))=if P t then 0 else if v6 P (l.drop (i+1))<0 then -1 else v6 P (l.drop (i+1))+1 from rfl] at h2;have hge:=aS P (l.drop (i+1));generalize P t=p at *;generalize hk:v6 P (l.drop (i+1))=k at *;cbv;refine yJ rfl (by exact⟨les_refl _,lE caps⟩) hc rfl ?_;cbv;refine zO (λh6=>?_) (λh6=>?_)
  ·subst h6;cbv
   (refine rC ?_;cbv)
   exact zB (by (try dsimp only [zV] at *);grind)
  ·subst h6;cbv;refine⟨zD om om,i+1,⟨om,?_⟩,om,.le ?_ ?_ rfl⟩
   ·(try dsimp only [zV] at *)
    grind
   {cbv;exact⟨lR,(by cases caps <;> first|trivial|grind [les_refl.les1_refl,dX]),lR,zB om,trivial⟩};{cbv}
 ·have:i=l.length:=om;rw[this,vE] at h2;cbv
  (refine rC ?_;cbv)
  exact zB (by rw[h2];simp[v6])
def R8 (P:A->Bool)(l:List A)(hl:l.length<2^40)(g:FuncId)(caps:List PV)(hg:∀ a,a∈l->zC g (.agg (ac a)::caps) (zL (P a))):zC 195 [.sl (λ_=>enc ac l),.fn g caps] (zL (l.any P)):=by refine sF Tryz.f195 ?_;have hc:=Nv P l hl g caps hg;rw[<-K1];generalize v6 P l=k at *;cbv;refine yJ rfl (by exact⟨lR,⟨nqb_self g,dX caps⟩,trivial⟩) hc rfl ?_;cbv;exact rA
def Bj:Pg.funcs[120]?=some Tryz.f120:=by rw[uZ];rfl
def Nu (P:Dec->Bool)(l:List Dec)(hl:l.length<2^40)(g:FuncId)(caps:List PV)(hg:∀ a,a∈l->zC g (.agg (dc a)::caps) (zL (P a))):zC 120 [.sl (λ_=>enc dc l),.fn g caps] (iV (v6 P l)):=by
 refine sI Bj rfl rfl rfl rfl rfl ?_;generalize hr:v6 P l=r;cbv;refine z7 (σ:=Nat) (λi=>⟨[(0,.sl (λ_=>enc dc l)),(1,.fn g caps),(7,iV l.length),(8,iV i)],[]⟩)
  (λi=>i<=l.length/\r=(if v6 P (l.drop i)<0 then -1 else v6 P (l.drop i)+i)) (λi=>l.length-i) 0 ⟨om,?_⟩ (.le ?_ ?_ rfl) ?_
 {rw[wZ,hr];have:=aS P l;omega};{cbv;exact⟨lR,(by cases caps <;> first|trivial|grind [les_refl.les1_refl,dX]),zB (by (try dsimp only [zV] at *);rw[zA]),lR,trivial⟩};{cbv};intro i hs;obtain⟨h1,h2⟩:=hs;cbv;refine zF (λh5=>?_) (λh5=>?_)
 ·cbv;refine xQ (l:=l) i (by (grind) <;> (try simp only[zH] at *) <;> omega) om uF qP (λt ht=>?_);have hc:=hg t (z3 ht);rw[zY ht,show v6 P (t::l.drop (i+1))=if P t then 0 else if v6 P (l.drop (i+1))<0 then -1 else v6 P (l.drop (i+1))+1 from rfl] at h2;have hge:=aS P (l.drop (i+1));generalize P t=p at *;generalize hk:v6 P (l.drop (i+1))=k at *;cbv;refine yJ rfl (by exact⟨les_refl _,lE caps⟩) hc rfl ?_;cbv;refine zO (λh6=>?_) (λh6=>?_)
  ·subst h6;cbv
   (refine rC ?_;cbv)
   exact zB (by (try dsimp only [zV] at *);grind)
  ·subst h6;cbv;refine⟨zD om om,i+1,⟨om,?_⟩,om,.le ?_ ?_ rfl⟩
   ·(try dsimp only [zV] at *)
    grind
   {cbv;exact⟨lR,(by cases caps <;> first|trivial|grind [les_refl.les1_refl,dX]),lR,zB om,trivial⟩};{cbv}
 ·have:i=l.length:=om;rw[this,vE] at h2;cbv
  (refine rC ?_;cbv)
  exact zB (by rw[h2];simp[v6])
def R7 (P:Dec->Bool)(l:List Dec)(hl:l.length<2^40)(g:FuncId)(caps:List PV)(hg:∀ a,a∈l->zC g (.agg (dc a)::caps) (zL (P a))):zC 135 [.sl (λ_=>enc dc l),.fn g caps] (zL (l.any P)):=by refine sF Tryz.f135 ?_;have hc:=Nu P l hl g caps hg;rw[<-K1];generalize v6 P l=k at *;cbv;refine yJ rfl (by exact⟨lR,⟨nqb_self g,dX caps⟩,trivial⟩) hc rfl ?_;cbv;exact rA
def Eh (a:A)(vars:Int)(ha:a.sz (2^36)):zC 242 [.agg (ac a),.dptr [iV vars] 0] (zL (!a.valid vars)):=by
 refine sF Tryz.f242 ?_;have c1:=mN a vars ha;generalize a.valid vars=r at *;obtain⟨ts,c1',c2,c3⟩:=a;cbv;refine cA c1 ?_;cbv
 (refine rC ?_;cbv)
 exact yY rfl
def QU {α:Type}(p:α->Bool)(l:List α):l.all p=!(l.any λa=>!(p a)):=by grind
def Eg (l:List A)(vars:Int)(hl:Asz (2^36) l):zC 193 [alv l,iV vars] (zL (l.all (A.valid vars))):=by
 refine sF Tryz.f193 ?_;have c1:=R8 (λa=>!(a.valid vars)) l (bQ hl.len (by decide)) 242 [.dptr [iV vars] 0] (λa ha=>Eh a vars (hl.sz a ha));rw[QU];generalize (l.any λa=>!(a.valid vars))=r at *;cbv;refine qR (.frz 3 rfl rfl (by repeat' first|exact trivial|apply And.intro) (by repeat' first|exact trivial|apply And.intro)) rfl (by exact⟨lR,⟨rfl,lR,trivial⟩,trivial⟩) c1 rfl ?_;cbv
 (refine rC ?_;cbv)
 exact yY rfl
def H1 (k:Int)(f:A)(r:List A):vU k (f::r)=(f.valid k&&vU (k+1) r):=rfl
def D5 (g:Grp)(hg:g.sz (2^36)):zC 149 [gv g] (zL g.valid):=by
 refine sF Tryz.f149 ?_;obtain⟨n,us,os⟩:=g;have hu:=hg.us.sz;have hul:=hg.us.len;have hol:=hg.os.len;have hos:=λvars=>Eg os vars hg.os;clear hg;simp only at hu hul hol hos;generalize hr:Grp.valid ⟨n,us,os⟩=r;have hr0:r=(decide (1<=n/\n<=256/\us.length<=1024/\1<=os.length/\os.length<=256)&&vU n us&&os.all (A.valid (n+us.length))):=hr.symm;clear hr;have hno:¬(1<=n/\n<=256/\us.length<=1024/\1<=os.length/\os.length<=256)->r=false:=λh=>by grind
 cbv;refine zQ (λe1=>?_) (λe1=>?_)
 ·cbv
  (refine rC ?_;cbv)
  exact zK (hno om)
 cbv;refine zQ (λe2=>?_) (λe2=>?_)
 ·cbv
  (refine rC ?_;cbv)
  exact zK (hno om)
 cbv;refine zQ (λe3=>?_) (λe3=>?_)
 ·cbv
  (refine rC ?_;cbv)
  exact zK (hno (by simp only[zA] at e3;exact om))
 cbv;refine zQ (λe4=>?_) (λe4=>?_)
 ·cbv
  (refine rC ?_;cbv)
  exact zK (hno (by simp only[zA] at e4;exact om))
 cbv;refine zF (λe5=>?_) (λe5=>?_)
 ·cbv
  (refine rC ?_;cbv)
  exact zK (hno (by simp only[zA] at e5;exact om))
 rw[zA] at e3 e4 e5
 (try dsimp only [zV] at *)
 rw[decide_eq_true oM,yW] at hr0;clear hno;cbv;refine z7 (σ:=Nat) (λi=>⟨[(1,.ptr 1 0),(32,alv us),(33,iV us.length),(34,iV i)],[(1,.box [iV n,alv us,alv os])]⟩)
  (λi=>i<=us.length/\r=(vU (n+i) (us.drop i)&&os.all (A.valid (n+us.length)))) (λi=>us.length-i) 0 ⟨om,?_⟩ (.le ?_ ?_ rfl) ?_
 {grind};{cbv;exact⟨lR,lR,zB (by (try dsimp only [zV] at *);rw[zA]),lR,trivial⟩};{cbv;exact okA};clear hr0;intro i hs;obtain⟨h1,h2⟩:=hs;cbv;refine zF (λh5=>?_) (λh5=>?_)
 ·(cbv;refine xQ (l:=us) i (by (grind) <;> (try simp only[zH] at *) <;> omega) om j7 cJ (λt ht=>?_);have cv:=mN t (n+i) (hu t (z3 ht));rw[zY ht,H1] at h2;have e:n+(i:Int)+1=n+((i+1:Nat):Int):=by omega);rw[e] at h2
  generalize hv:t.valid (n+i)=v at *;obtain⟨t1,t2,t3,t4⟩:=t;cbv;refine⟨zD om om,?_⟩;cbv;refine cA cv ?_;cbv;refine zO (λh6=>?_) (λh6=>?_);{subst h6;rw[yW] at h2;cbv;refine⟨zD om om,i+1,⟨om,h2⟩,om,.le ?_ ?_ rfl⟩;{cbv;exact⟨lR,lR,lR,zB om,trivial⟩};{cbv;exact okA}}
  ·subst h6;cbv
   (refine rC ?_;cbv)
   exact zK (by grind)
 {have hi:i=us.length:=om;rw[hi,vE] at h2;have h2':r=os.all (A.valid (n+us.length)):=h2;have cv:=hos (n+us.length);rw[<-h2'] at cv;clear h2 h2' hos;cbv;refine⟨zD (by rw[zA];exact om) (by rw[zA];exact om),?_⟩;cbv;refine yJ rfl (by exact⟨lR,zB (by rw[zA]),trivial⟩) cv rfl ?_;cbv;exact rA}
def Ls (a:A)(vars:Int)(ha:a.sz (2^36)):zC 196 [.agg (ac a),.dptr [iV vars] 0] (zL (!a.valid vars)):=by
 refine sF Tryz.f196 ?_;have c1:=mN a vars ha;generalize a.valid vars=r at *;obtain⟨ts,c1',c2,c3⟩:=a;cbv;refine cA c1 ?_;cbv
 (refine rC ?_;cbv)
 exact yY rfl
theorem H3 (l:R)(ls)(h:R)(hs):vB (l::ls) (h::hs)=(l.ok&&h.ok&&decide (uV l.q h.q<=0)&&vB ls hs):=rfl
def zS {α:Type}{l:List α}{i:Nat}(h:i<l.length):∃ a,l[i]?=some a:=⟨l[i],by simp[h]⟩
def DX (g:Reg)(n:Int)(hg:g.sz (2^34)):zC 150 [rgv g,iV n] (zL (g.valid n)):=by
 refine sF Tryz.f150 ?_;obtain⟨lo,hi,rows⟩:=g;have hlo:=hg.lo.sz;have hhi:=hg.hi.sz;have hlol:=hg.lo.len;have hhil:=hg.hi.len;have hrl:=hg.rows.len;have hrs:=hg.rows.sz;simp only at hlo hhi hlol hhil hrl hrs;have cr:=R8 (λa=>!(a.valid n)) rows (bQ hrl (by decide)) 196 [.dptr [iV n] 0] (λa ha=>Ls a n ((hrs a ha).mono (by decide)));generalize hr:Reg.valid n ⟨lo,hi,rows⟩=r;have hr0:r=(decide (1<=n/\n<=256/\(lo.length:Int)=n/\(hi.length:Int)=n/\rows.length<=256)&&vB lo hi&&rows.all (A.valid n)):=hr.symm;rw[QU] at hr0;generalize (rows.any λa=>!(a.valid n))=bad at *;clear hr hrs hg;have hno:¬(1<=n/\n<=256/\(lo.length:Int)=n/\(hi.length:Int)=n/\rows.length<=256)->r=false:=λh=>by grind
 cbv;refine zQ (λe1=>?_) (λe1=>?_)
 ·cbv
  (refine rC ?_;cbv)
  exact zK (hno om)
 cbv;refine zQ (λe2=>?_) (λe2=>?_)
 ·cbv
  (refine rC ?_;cbv)
  exact zK (hno om)
 cbv;refine zQ (λe3=>?_) (λe3=>?_)
 ·cbv;refine zQ (λe4=>?_) (λe4=>?_)
  ·cbv;refine zF (λe5=>?_) (λe5=>?_)
   ·cbv
    (refine rC ?_;cbv)
    exact zK (hno (by simp only[zA] at e5;exact om))
   rw[zA] at e3 e4 e5
   (try dsimp only [zV] at *)
   rw[decide_eq_true oM,yW] at hr0;clear hno;cbv;refine z7 (σ:=Nat) (λi=>⟨[(2,.ptr 2 0),(3,.ptr 3 0),(34,rlv lo),(35,iV lo.length),(36,iV i)],[(2,.box [rlv lo,rlv hi,alv rows]),(3,.box [iV n])]⟩)
    (λi=>i<=lo.length/\r=(vB (lo.drop i) (hi.drop i) && !bad)) (λi=>lo.length-i) 0 ⟨om,hr0⟩ (.le ?_ ?_ rfl) ?_
   {cbv;exact⟨lR,lR,lR,zB (by (try dsimp only [zV] at *);rw[zA]),lR,trivial⟩};{cbv;exact okA};clear hr0;intro i hs;obtain⟨h1,h2⟩:=hs;cbv;refine zF (λh5=>?_) (λh5=>?_)
   ·cbv;refine xQ (l:=lo) i (by (grind) <;> (try simp only[zH] at *) <;> omega) om gT bV (λl hl=>?_);obtain⟨h,hh⟩:∃ h,hi[i]?=some h:=zS (by exact om);rw[zY hl,zY hh,H3] at h2;have hls:=hlo l (z3 hl);have hhs:=hhi h (z3 hh);have cl:=Hd l (hls.mono (by decide));have ch:=Hd h (hhs.mono (by decide));have cc:=Ez l h hls hhs;generalize uV l.q h.q=cq at *;generalize l.ok=o1 at *;generalize h.ok=o2 at *;obtain⟨l1,l2,l3⟩:=l;cbv;refine zM 22 (by cbv) ?_;cbv;refine dA cl ?_;cbv;refine yB (λe6=>?_) (λe6=>?_)
    ·(subst e6;cbv;refine xQ (l:=hi) i (by (grind) <;> (try simp only[zH] at *) <;> omega) om gT bV (λh' hh'=>?_);obtain rfl:h'=h:=by grind);obtain⟨k1,k2,k3⟩:=h'
     cbv;refine dA ch ?_;cbv;refine yB (λe7=>?_) (λe7=>?_)
     ·(subst e7;cbv;refine xQ (l:=hi) i (by (grind) <;> (try simp only[zH] at *) <;> omega) om gT bV (λh'' hh''=>?_);obtain rfl:h''=⟨k1,k2,k3⟩:=by grind);cbv
      refine dA cc ?_;cbv;refine zF (λe8=>?_) (λe8=>?_)
      ·cbv
       (refine rC ?_;cbv)
       exact zK (by grind)
      {rw[decide_eq_true oM] at h2;cbv;refine⟨zD om om,i+1,⟨om,h2⟩,om,.le ?_ ?_ rfl⟩;{cbv;exact⟨lR,lR,lR,lR,zB om,trivial⟩};{cbv;exact okA}}
     ·subst e7;cbv
      (refine rC ?_;cbv)
      exact zK (by grind)
    ·subst e6;cbv
     (refine rC ?_;cbv)
     exact zK (by grind)
   ·(have hi':i=lo.length:=om;rw[hi',vE] at h2;have h2':r=!bad:=by rw[h2];cases hi.drop lo.length <;> rfl);clear h2
    cbv;refine qR (.frz 3 rfl rfl (by repeat' first|exact trivial|apply And.intro) (by repeat' first|exact trivial|apply And.intro)) rfl (by exact⟨lR,⟨rfl,lR,trivial⟩,trivial⟩) cr rfl ?_;cbv
    (refine rC ?_;cbv)
    exact yY h2'
  ·cbv
   (refine rC ?_;cbv)
   exact zK (hno (by simp only[zA] at e4;exact om))
 ·cbv
  (refine rC ?_;cbv)
  exact zK (hno (by simp only[zA] at e3;exact om))
def mL (q:Qry)(hq:q.sz (2^34)):zC 80 [qv q] (zL q.valid):=by
 refine sF Tryz.f80 ?_;have cg:=D5 q.g (hq.g.mono (by decide));have crg:=DX q.r q.g.n hq.r;have cl:=mN q.goal q.g.vars (hq.goal.mono (by decide));have hul:=hq.g.us.len;have hr:q.valid=(q.g.valid&&q.r.valid q.g.n&&q.goal.valid q.g.vars):=rfl;have hn:q.g.valid=true->1<=q.g.n/\q.g.n<=256:=λh=>by unfold Grp.valid at h;grind
 rw[hr];clear hr hq;obtain⟨⟨n,us,os⟩,⟨lo,hi,rows⟩,⟨ts,c1,c2,c3⟩⟩:=q;simp only at hn hul cg crg cl ⊢;have hv:Grp.vars ⟨n,us,os⟩=n+us.length:=rfl;rw[hv] at cl ⊢;generalize Grp.valid ⟨n,us,os⟩=b1 at *;generalize Reg.valid n ⟨lo,hi,rows⟩=b2 at *;generalize hb3:A.valid (n+us.length) ⟨ts,c1,c2,c3⟩=b3 at *;cbv;refine cA cg ?_;cbv;refine yB (λe6=>?_) (λe6=>?_)
 ·subst e6;have hn':=hn rfl;cbv;refine cA crg ?_;cbv;refine yB (λe7=>?_) (λe7=>?_)
  ·subst e7;cbv;refine⟨zD (by rw[zA];exact om) (by rw[zA];exact om),?_⟩;refine yJ rfl (by exact⟨okA,zB (by rw[zA]),trivial⟩) cl rfl ?_;cbv
   (refine rC ?_;cbv)
   exact zX (by rfl)
  {subst e7;cbv;exact rA}
 {subst e6;cbv;exact rA}
abbrev R0:R:=⟨false,[],[]⟩
def Sj (x:R):zC 211 [rv x] (zL (decide (x=R0))):=by
 refine sF Tryz.f211 ?_;obtain⟨a,b,c⟩:=x;have h0:∀ l:List UInt32,((lm l).length:Int)=0↔l=[]:=λl=>by grind [zH,List.eq_nil_of_length_eq_zero]
 generalize hr:decide ((⟨a,b,c⟩:R)=R0)=r;have hr0:r=(!a&&(decide (((lm b).length:Int)=0)&&decide (((lm c).length:Int)=0))):=by simp_all
 clear hr;cbv;refine yB (λe=>?_) (λe=>?_)
 ·subst e;cbv
  (refine rC ?_;cbv)
  exact zK (by grind)
 ·subst e;cbv;refine zQ (λe=>?_) (λe=>?_)
  ·rw[decide_eq_true e] at hr0;cbv
   (refine rC ?_;cbv)
   exact zX (by grind)
  ·rw[decide_eq_false e] at hr0;cbv
   (refine rC ?_;cbv)
   exact zK (by grind)
def XC (q:Qry)(d:Dec)(hd:d.x.sz (2^36)):zC 176 [qv q,dv d] (zL (d.fits q)):=by
 refine sF Tryz.f176 ?_;have cz:=Sj d.x;have cv:=Hd d.x hd;have hr:d.fits q=if d.k=1\/d.k=2 then decide (0<=d.i/\d.i<q.g.us.length)&&decide (d.x=R0) else if d.k=3\/d.k=4 then decide (0<=d.i/\d.i<q.g.n)&&d.x.ok else false:=rfl
 generalize d.fits q=r at *;generalize decide (d.x=R0)=z at *;generalize d.x.ok=ok at *;obtain⟨⟨n,us,os⟩,⟨lo,hi,rows⟩,⟨ts,c1,c2,c3⟩⟩:=q;obtain⟨k,i,x1,x2,x3⟩:=d;simp only at hr;have u1:∀ (hk:k=1\/k=2),(0<=i->i<us.length->r=z)/\(¬(0<=i/\i<us.length)->r=false):=λhk=>by grind
 have u2:∀ (hk:k=3\/k=4),(0<=i->i<n->r=ok)/\(¬(0<=i/\i<n)->r=false):=λhk=>by grind
 have u3:¬(k=1\/k=2\/k=3\/k=4)->r=false:=λhk=>by grind
 clear hr;cbv;have hk:k=1\/k=2\/k=3\/k=4\/(k<=0\/5<=k):=by omega
 rcases hk with rfl|rfl|rfl|rfl|hk
 ·obtain⟨v1,v2⟩:=u1 (.inl rfl);clear u1 u2 u3;refine vC rfl ?_;cbv;refine vC rfl ?_;cbv;refine zQ (λe1=>?_) (λe1=>?_)
  ·cbv;refine zQ (λe2=>?_) (λe2=>?_)
   ·cbv;refine cA cz ?_;cbv
    (refine rC ?_;cbv)
    exact zX (by rw[v1 om (by rw[zA] at e2;exact om)])
   ·cbv
    (refine rC ?_;cbv)
    exact zK (v2 (λh=>by rw[zA] at e2;exact om))
  ·cbv
   (refine rC ?_;cbv)
   exact zK (v2 (λh=>by exact om))
 ·obtain⟨v1,v2⟩:=u1 (.inr rfl);clear u1 u2 u3;refine yE (by simp) ?_;cbv;refine vC rfl ?_;cbv;refine zQ (λe1=>?_) (λe1=>?_)
  ·cbv;refine zQ (λe2=>?_) (λe2=>?_)
   ·cbv;refine cA cz ?_;cbv
    (refine rC ?_;cbv)
    exact zX (by rw[v1 om (by rw[zA] at e2;exact om)])
   ·cbv
    (refine rC ?_;cbv)
    exact zK (v2 (λh=>by rw[zA] at e2;exact om))
  ·cbv
   (refine rC ?_;cbv)
   exact zK (v2 (λh=>by exact om))
 ·obtain⟨v1,v2⟩:=u2 (.inl rfl);clear u1 u2 u3;refine yE (by simp) ?_;cbv;refine yE (by simp) ?_;cbv;refine vC rfl ?_;cbv;refine vC rfl ?_;cbv;refine zQ (λe1=>?_) (λe1=>?_)
  ·cbv;refine zQ (λe2=>?_) (λe2=>?_)
   ·cbv;refine cA cv ?_;cbv
    (refine rC ?_;cbv)
    exact zX (by rw[v1 om (by exact om)])
   ·cbv
    (refine rC ?_;cbv)
    exact zK (v2 (λh=>by exact om))
  ·cbv
   (refine rC ?_;cbv)
   exact zK (v2 (λh=>by exact om))
 ·obtain⟨v1,v2⟩:=u2 (.inr rfl);clear u1 u2 u3;refine yE (by simp) ?_;cbv;refine yE (by simp) ?_;cbv;refine yE (by simp) ?_;cbv;refine vC rfl ?_;cbv;refine zQ (λe1=>?_) (λe1=>?_)
  ·cbv;refine zQ (λe2=>?_) (λe2=>?_)
   ·cbv;refine cA cv ?_;cbv
    (refine rC ?_;cbv)
    exact zX (by rw[v1 om (by exact om)])
   ·cbv
    (refine rC ?_;cbv)
    exact zK (v2 (λh=>by exact om))
  ·cbv
   (refine rC ?_;cbv)
   exact zK (v2 (λh=>by exact om))
 ·have hr:=u3 oM;clear u1 u2 u3;refine yE (by grind) ?_;cbv;refine yE (by grind) ?_;cbv;refine yE (by grind) ?_;cbv;refine yE (by grind) ?_;cbv
  (refine rC ?_;cbv)
  exact zK hr
def Gi (q:Qry)(d:Dec)(hq:q.sz (2^34))(hd:d.x.sz (2^36)):zC 122 [qv q,dv d] (zL (q.valid&&d.fits q)):=by
 refine sF Tryz.f122 ?_;have c1:=mL q hq;have c2:=XC q d hd;generalize q.valid=b1 at *;generalize d.fits q=b2 at *;obtain⟨⟨n,us,os⟩,⟨lo,hi,rows⟩,⟨ts,c1',c2',c3⟩⟩:=q;obtain⟨k,i,x1,x2,x3⟩:=d;cbv;refine cA c1 ?_;cbv;refine yB (λe=>?_) (λe=>?_)
 ·subst e;cbv;refine cA c2 ?_;cbv
  (refine rC ?_;cbv)
  exact zX rfl
 {subst e;cbv;exact rA}
def Row.plain (r:Row):Bool:=decide (r.lo=0)&&decide (r.hi=0)
def Kl (r:Row):zC 290 [rwv r] (zL r.plain):=by
 refine sF Tryz.f290 ?_;have hr:r.plain=(decide (r.lo=0)&&decide (r.hi=0)):=rfl;generalize r.plain=p at *;obtain⟨k,i,lo,hi⟩:=r;cbv;refine zQ (λe=>?_) (λe=>?_)
 ·simp only at hr;rw[decide_eq_true e,yW] at hr;cbv
  (refine rC ?_;cbv)
  exact zX hr.symm
 ·simp only at hr;rw[decide_eq_false e] at hr;cbv
  (refine rC ?_;cbv)
  exact zK hr
def F.var (v:Int):F:=⟨[(v,1)],0⟩
def F.num (q:Rat):F:=⟨[],q⟩
def US (v:Int):zC 291 [iV v] (fv (F.var v)):=by
 refine sF Tryz.f291 ?_;have c1:=Cd 1 (by decide) (by decide);have e:fv (F.var v)=.agg [.sl (λ_=>[xT [iV v,zL ((zI ((1:Int):Rat)).neg),nat (zI ((1:Int):Rat)).num,nat (zI ((1:Int):Rat)).den]]),zL R0.neg,nat R0.num,nat R0.den]:=by show av ⟨[(v,zI 1)],zI 0⟩=_;rw[uJ];rfl
 rw[e];clear e;generalize zI ((1:Int):Rat)=o at *;obtain⟨o1,o2,o3⟩:=o;cbv;refine cA c1 ?_;cbv
 (refine rC ?_;cbv)
 exact⟨zR rfl,zK rfl,yM rfl,yM rfl,trivial⟩
def ZJ (x:R)(hx:x.sz (2^36)):zC 292 [rv x] (fv (F.num x.q)):=by refine sF Tryz.f292 ?_;have c1:=Sz x hx;show wp _ _ (dU _ (.agg [tsv [],zL ((zI x.q).neg),nat (zI x.q).num,nat (zI x.q).den]) [] []);generalize zI x.q=w at *;obtain⟨w1,w2,w3⟩:=w;obtain⟨x1,x2,x3⟩:=x;cbv;refine cA c1 ?_;cbv;exact rA
def XB (f:A)(hf:f.sz (2^33)):zC 293 [av f] (fv (f.f.scale (-1))):=by refine sF Tryz.f293 ?_;have c1:=Cd (-1) (by decide) (by decide);have c2:=mO f (zI ((-1:Int):Rat)) hf ((oS (-1) (by decide) (by decide)).mono (by decide));rw[z6] at c2;have e:f.f.scale ((-1:Int):Rat)=f.f.scale (-1):=rfl;rw[e] at c2;generalize fA (f.f.scale (-1))=W at *;generalize zI ((-1:Int):Rat)=o at *;obtain⟨ft,f1,f2,f3⟩:=f;obtain⟨wt,w1,w2,w3⟩:=W;cbv;refine zM 3 (by cbv) ?_;cbv;refine dA c1 ?_;cbv;refine dA c2 ?_;cbv;exact rA
end Go.Proofs.YtaeaffgjdcigoaaGreat
