/- A part of the proof: LnB, DtA, HfA, VaA. -/
import Derived.Test.YtboocdbmnfjomaaGreatV20
set_option linter.all false
namespace Go.Proofs.YtboocdbmnfjomaaGreat
open Go
set_option maxRecDepth 100000
set_option maxHeartbeats 1000000
def Z9 {rs:List ResultVar}{r:PV}{ps ps':PS}{n:Nat}{o:Obj'}(m:Nat)(hw:Wk ps ps')(h3:lv r=true)(h4:yK ps'.objs m=some (xY (ren (λ_=>m)) o))(h5:bK o=true) (h:match dW ps' rs with
  |some l=>les (mM l) (ren (λ_=>m) r)| none=>False):RetOk rs r [] [(n,o)] ps:=by
 cases h1:dW ps' rs with
 |none=>grind| some l=>rw[h1] at h;exact⟨ps',l,λ_=>m,hw,h1,cO h,h3,⟨⟨h4,h5⟩,trivial⟩,rfl,trivial⟩
def bW {rs:List ResultVar}{r:PV}{ps:PS}(ps':PS)(hw:Wk ps ps')(h3:lv r=true) (h:match dW ps' rs with
  |some l=>les (mM l) (ren id r)| none=>False):RetOk rs r [] [] ps:=by
 cases h1:dW ps' rs with
 |none=>grind| some l=>rw[h1] at h;exact⟨ps',l,id,hw,h1,cO h,h3,trivial,rfl,trivial⟩
def wU {p:Prop}[Decidable p]{A B:Unit->Prop}(h:p)(h1:A ()):Br (λ_=>decide p) A B:=zX (λ_=>h1) (λg=>(g h).elim)
def yF {p:Prop}[Decidable p]{A B:Unit->Prop}(h:¬p)(h1:B ()):Br (λ_=>decide p) A B:=zX (λg=>(h g).elim) (λ_=>h1)
def xD {p:Prop}[Decidable p]{A B:(Exit->PS->Prop)->Prop}{Q:Exit->PS->Prop}(h:p)(h1:A Q):Cut (λ_=>decide p) A B Q:=zG (λ_=>h1) (λg=>(g h).elim)
def yA {p:Prop}[Decidable p]{A B:(Exit->PS->Prop)->Prop}{Q:Exit->PS->Prop}(h:¬p)(h1:B Q):Cut (λ_=>decide p) A B Q:=zG (λg=>(h g).elim) (λ_=>h1)
def pcr (l:List (Int×Rat)) (v:Int) (q:Rat):List (Int×Rat):=if q=0 then l else l++[(v,q)]
def dJ (l:List (Int×Rat))(v:Int)(q:Rat)(r):pcr l v q++r=l++pc v q r:=by grind [pcr,pc]
abbrev avo (n len:Nat) (c:R):PV:=.agg [zT n 4 len,zM c.neg,nat c.num,nat c.den]
theorem vR (l:List (Int×Rat)):(tR l).length=l.length:=by simp[tR]
def Dt (l m:List (Int×Rat)):tR (l++m)=tR l++tR m:=by simp[tR]
def Ul:ty 23=.sli 4 64 [iV 0,.ff,.nil,.nil]:=by cbv
def Xq (l:List (Int×Rat))(c:R)(v:Int)(x:R)(hx:x.sz (2^36))(hl:l.length<2^39):Sound 226 [avo 100 l.length c,iV v,rv x] [] [(100,zW 4 (enc tc (tR l)))] (avo 100 (pcr l v x.q).length c) [] [(100,zW 4 (enc tc (tR (pcr l v x.q))))]:=by refine sF Tryz.f226 ?_;have cs:=s86 x (by have:=hx.n;omega);have cc:=Fh x hx;have h1:yG x.q≠0->pcr l v x.q=l++[(v,x.q)]:=λh=>if_neg (sgnQ_ne.1 h);have h2:¬yG x.q≠0->pcr l v x.q=l:=λh=>if_pos (by grind [sgnQ_ne]);generalize pcr l v x.q=P at *;generalize hsg:yG x.q=sg at *;generalize hq:x.q=q at *;have hR:tR [(v,q)]=[(v,zK q)]:=rfl;generalize zK q=W at *;obtain⟨x1,x2,x3⟩:=x;obtain⟨w1,w2,w3⟩:=W;obtain⟨c1,c2,c3⟩:=c;clear hq hsg;cbv;refine cA cs ?_;cbv;refine zG (λh=>?_) (λh=>?_);{have hP:=h2 oM;clear h1 h2;subst hP;cbv;exact Z9 100 (.refl _) rfl rfl rfl (by cbv;exact okA)};{have hP:=h1 oM;clear h1 h2;subst hP;cbv;refine zP 7 (by cbv) ?_;cbv;refine dA cc ?_;cbv;refine xT Ul rfl rfl rfl (by simp only[zB,vR]) rfl ⟨by simp[zI,y7]⟩ (zV oM (by simp only[zB,vR,zI,fH,dU];omega)) rfl ?_;cbv;refine Z9 (ps':=⟨[(6,.ptr 6 0)],[(6,.box [zT 17 4 ((l++[(v,q)]).length),zM c1,nat c2,nat c3]),(17,zW 4 (enc tc (tR (l++[(v,q)]))))]⟩) 17 (.le ?_ ?_ rfl) rfl rfl rfl ?_;{cbv;exact okA};{cbv;exact⟨⟨zR rfl (by simp[zB,vR,zI]),lR,lR,lR,trivial⟩,zC (by rw[Dt,hR,<-z3];rfl),trivial⟩};{cbv;exact okA}}
def dI (l:List (Int×Rat))(v:Int)(q:Rat):(pcr l v q).length<=l.length+1:=by grind [pcr]
def fC {α:Type}{p:α->List PV}{n:Nat}{a:α}{l:List α}{K:List PV->Prop}(hf:∀ a,yX qT (p a)=true)(hn:∀ a,(p a).length=n)(hK:K (p a)):IdxOk n (λ_=>enc p (a::l)) (λ_=>0) K :=
 wB 0 rfl (by simp) hf hn (λb hb=>by grind)
def b7 (t:Int×R)(l):tq (t::l)=(t.1,t.2.q)::tq l:=rfl
def Xr (f g:A)(c:R)(hf:f.sz (2^33))(hg:g.sz (2^33))(hc:c.sz (2^33)):zH 189 [av f,av g,rv c] (fv (f.f.merge g.f c.q)):=by
 refine sF Tryz.f189 ?_;obtain⟨ts,fc⟩:=f;obtain⟨us,gc⟩:=g;have hlt:=hf.t.len;have hlu:=hg.t.len;have hst:=hf.t.sz;have hsu:=hg.t.sz;have hfc:=hf.c;have hgc:=hg.c;have cfc:=hfc.fits (by decide);have cgc:=hgc.fits (by decide);have ccf:=hc.fits (by decide);simp only at hlt hlu hst hsu hfc hgc cfc cgc;have cm:=D8 gc c (hgc.mono (by decide)) (hc.mono (by decide));have ca:=Fj fc (zK (gc.q*c.q)) (hfc.mono (by decide)) (z5 ((wG cgc ccf).mono (by decide)));rw[yD] at ca;show wp _ _ (gT _ (.agg [tsv (tR (mrg c.q (tq ts) (tq us))),zM ((zK (fc.q+gc.q*c.q)).neg),nat (zK (fc.q+gc.q*c.q)).num,nat (zK (fc.q+gc.q*c.q)).den]) [] []);generalize zK (fc.q+gc.q*c.q)=W at *;generalize zK (gc.q*c.q)=V at *;generalize hM:mrg c.q (tq ts) (tq us)=M;have hmul:∀ b:Int×R,b∈us->zH 94 [rv b.2,rv c] (rv (zK (b.2.q*c.q))):=λb hb=>D8 b.2 c ((hsu b hb).mono (by decide)) (hc.mono (by decide));have hmsz:∀ b:Int×R,b∈us->(zK (b.2.q*c.q)).sz (2^34):=λb hb=>z5 ((wG ((hsu b hb).fits (by decide)) ccf).mono (by decide));have hadd:∀ (a b:Int×R),a∈ts->b∈us->zH 93 [rv a.2,rv (zK (b.2.q*c.q))] (rv (zK (a.2.q+b.2.q*c.q))):=λa b ha hb=>by have:=Fj a.2 (zK (b.2.q*c.q)) ((hst a ha).mono (by decide)) ((hmsz b hb).mono (by decide));rw[yD] at this;omega
 have hasz:∀ (a b:Int×R),a∈ts->b∈us->(zK (a.2.q+b.2.q*c.q)).sz (2^36):=λa b ha hb=>z5 ((qE ((hst a ha).fits (by decide)) (wG ((hsu b hb).fits (by decide)) ccf)).mono (by decide));clear hf hg cfc cgc hfc hgc;generalize hcq:c.q=cq at *;obtain⟨w1,w2,w3⟩:=W;obtain⟨fc1,fc2,fc3⟩:=fc;obtain⟨gc1,gc2,gc3⟩:=gc;obtain⟨c1,c2,c3⟩:=c;cbv;refine dR 9 (by cbv) (by cbv) ?_;cbv;refine dA cm ?_;cbv;refine dA ca ?_;cbv;refine zP 5 (by cbv) ?_;cbv;refine zY (σ:=List (Int×Rat)×List (Int×R)×List (Int×R)) (λs=>⟨[(5,.ptr 5 0),(6,.ptr 6 0),(7,.ptr 7 0),(8,tsv s.2.1),(9,tsv s.2.2)],[(5,.box [zM c1,nat c2,nat c3]),(6,.box [.nil,.ff,.nil,.nil]),(7,.box [zT 200 4 s.1.length,zM w1,nat w2,nat w3]),(200,zW 4 (enc tc (tR s.1)))]⟩)
  (λs=>M=s.1++mrg cq (tq s.2.1) (tq s.2.2)/\s.1.length+(s.2.1.length+s.2.2.length)<=ts.length+us.length/\(∀ t,t∈s.2.1->t∈ts)/\(∀ t,t∈s.2.2->t∈us)) (λs=>s.2.1.length+s.2.2.length)
  ([],ts,us) ⟨hM.symm,by simp,λ_ h=>h,λ_ h=>h⟩
  (.trans (.le (ps':=⟨[(5,.ptr 5 0),(6,.ptr 6 0),(7,.ptr 7 0),(8,tsv ts),(9,tsv us)],[(5,.box [zM c1,nat c2,nat c3]),(6,.box [.nil,.ff,.nil,.nil]),(7,.box [.nil,zM w1,nat w2,nat w3])]⟩) ?_ ?_ rfl) (.trans (.adoptB (ps:=⟨[(5,.ptr 5 0),(6,.ptr 6 0),(7,.ptr 7 0),(8,tsv ts),(9,tsv us)],[(5,.box [zM c1,nat c2,nat c3]),(6,.box [.nil,.ff,.nil,.nil]),(7,.box [.nil,zM w1,nat w2,nat w3])]⟩) (cs:=[.nil,zM w1,nat w2,nat w3]) 200 4 7 0 rfl rfl rfl) (.le ?_ ?_ rfl))) ?_
 {cbv;exact okA};{cbv;exact okA};{cbv;exact okA};{cbv;exact⟨okA,okA,⟨zR rfl rfl,lR,lR,lR,trivial⟩,zC rfl,trivial⟩};intro s hs;obtain⟨hI,hL,hA,hB⟩:=hs;generalize s.1=out at *;generalize s.2.1=aa at *;generalize s.2.2=bb at *;cases aa with
 |nil =>
  cases bb with
  |nil =>
   (cbv;refine yF (by simp[zB]) ?_;cbv;refine yA (by simp[zB]) ?_;cbv;have hM':M=out:=by rw[hI,show tq []=[] from rfl,mrg,vM]);subst hM'
   refine bW _ (.trans (.le (ps':=⟨[(6,.ptr 6 0)],[(6,.box [zT 200 4 M.length,zM w1,nat w2,nat w3]),(200,zW 4 (enc tc (tR M)))]⟩) ?_ ?_ rfl) (.frz 200 rfl rfl ?_ ?_)) rfl ?_;{cbv;exact okA};{cbv;exact⟨okA,zC rfl,trivial⟩};{exact⟨trivial,trivial⟩};{cbv;exact⟨⟨z6 (by simp[zB,vR]),trivial⟩,trivial⟩};{cbv;exact⟨zU (yU (by simp[zB,vR])),lR,lR,lR,trivial⟩}
  |cons b bs =>
   (have hb:=hB b vH;have cmb:=hmul b hb;have cpb:=Xq out ⟨w1,w2,w3⟩ b.1 (zK (b.2.q*cq)) ((hmsz b hb).mono (by decide)) oM;rw[yD] at cpb;have hI':M=pcr out b.1 (b.2.q*cq)++mrg cq (tq []) (tq bs):=by rw[hI,b7,show tq []=[] from rfl,mrg,dJ]);have hpl:=dI out b.1 (b.2.q*cq)
   generalize pcr out b.1 (b.2.q*cq)=out' at *;generalize zK (b.2.q*cq)=X at *;cbv;refine yF (by simp[zB]) ?_;cbv;refine xD (by simp[zB] <;> omega) ?_;cbv;refine zP 20 (by cbv) ?_;cbv;refine yF (by simp[zB] <;> omega) ?_;cbv;refine yF (by simp[zB]) ?_;cbv;refine zP 15 (by cbv) ?_;cbv;refine wU (by simp[zB]) ?_;cbv;refine zP 11 (by cbv) ?_;cbv;refine fC wP wH ?_;cbv;refine fC wP wH ?_;cbv;refine dA cmb ?_;cbv;refine kA (λ_=>200) cpb ?_;cbv;refine⟨qY (by decide) (by simp[zB] <;> omega) (by simp[zB]),wD wH _,?_⟩;cbv;refine⟨(out',[],bs),⟨hI',by simp at hL hpl ⊢;omega,hA,λt ht=>hB t (w6 _ ht)⟩,by simp,.le ?_ ?_ rfl⟩;{cbv;exact⟨lR,lR,lR,lR,zU (by simp[enc,yU]),trivial⟩};{cbv;exact⟨okA,okA,okA,zC rfl,trivial⟩}
 |cons a aa =>
  have ha:=hA a vH;cases bb with
  |nil =>
   (have cp:=Xq out ⟨w1,w2,w3⟩ a.1 a.2 ((hst a ha).mono (by decide)) oM;have hI':M=pcr out a.1 a.2.q++mrg cq (tq aa) (tq []):=by rw[hI,b7,show tq []=[] from rfl,mrg,dJ]);have hpl:=dI out a.1 a.2.q
   generalize pcr out a.1 a.2.q=out' at *;cbv;refine wU (by simp[zB] <;> omega) ?_;cbv;refine zP 20 (by cbv) ?_;cbv;refine wU (by simp[zB]) ?_;cbv;refine zP 9 (by cbv) ?_;cbv;refine fC wP wH ?_;cbv;refine fC wP wH ?_;cbv;refine kA (λ_=>200) cp ?_;cbv;refine⟨qY (by decide) (by simp[zB] <;> omega) (by simp[zB]),wD wH _,?_⟩;cbv;refine⟨(out',aa,[]),⟨hI',by simp at hL hpl ⊢;omega,λt ht=>hA t (w6 _ ht),hB⟩,by simp,.le ?_ ?_ rfl⟩;{cbv;exact⟨lR,lR,lR,zU (by simp[enc,yU]),lR,trivial⟩};{cbv;exact⟨okA,okA,okA,zC rfl,trivial⟩}
  |cons b bb =>
   have hb:=hB b vH;cbv;refine wU (by grind [zB]) ?_;cbv;refine zP 20 (by cbv) ?_;cbv;refine yF (by grind [zB]) ?_;cbv;refine wU (by grind [zB]) ?_;cbv;refine fC wP wH ?_;cbv;refine fC wP wH ?_;cbv;refine zG (λhlt=>?_) (λhlt=>?_)
   ·(have cp:=Xq out ⟨w1,w2,w3⟩ a.1 a.2 ((hst a ha).mono (by decide)) oM;have hI':M=pcr out a.1 a.2.q++mrg cq (tq aa) (tq (b::bb)):=by rw[hI,b7,b7,mrg,if_pos (show (a.1,a.2.q).1<(b.1,b.2.q).1 from hlt),dJ]);have hpl:=dI out a.1 a.2.q
    generalize pcr out a.1 a.2.q=out' at *;cbv;refine zP 9 (by cbv) ?_;cbv;refine fC wP wH ?_;cbv;refine fC wP wH ?_;cbv;refine kA (λ_=>200) cp ?_;cbv;refine⟨qY (by decide) (by simp[zB] <;> omega) (by simp[zB]),wD wH _,?_⟩;cbv;refine⟨(out',aa,b::bb),⟨hI',by simp at hL hpl ⊢;omega,λt ht=>hA t (w6 _ ht),hB⟩,by simp,.le ?_ ?_ rfl⟩;{cbv;exact⟨lR,lR,lR,zU (by simp[enc,yU]),lR,trivial⟩};{cbv;exact⟨okA,okA,okA,zC rfl,trivial⟩}
   ·cbv;refine zP 15 (by cbv) ?_;cbv;refine yF (by grind [zB]) ?_;cbv;refine fC wP wH ?_;cbv;refine fC wP wH ?_;cbv;refine zG (λhlt2=>?_) (λhlt2=>?_)
    ·(have cmb:=hmul b hb;have cp:=Xq out ⟨w1,w2,w3⟩ b.1 (zK (b.2.q*cq)) ((hmsz b hb).mono (by decide)) oM;rw[yD] at cp;have hI':M=pcr out b.1 (b.2.q*cq)++mrg cq (tq (a::aa)) (tq bb):=by rw[hI,b7,b7,mrg,if_neg (show ¬(a.1,a.2.q).1<(b.1,b.2.q).1 from hlt),if_pos (show (b.1,b.2.q).1<(a.1,a.2.q).1 from hlt2),dJ]);have hpl:=dI out b.1 (b.2.q*cq)
     generalize pcr out b.1 (b.2.q*cq)=out' at *;generalize zK (b.2.q*cq)=X at *;cbv;refine zP 11 (by cbv) ?_;cbv;refine fC wP wH ?_;cbv;refine fC wP wH ?_;cbv;refine dA cmb ?_;cbv;refine kA (λ_=>200) cp ?_;cbv;refine⟨qY (by decide) (by simp[zB] <;> omega) (by simp[zB]),wD wH _,?_⟩;cbv;refine⟨(out',a::aa,bb),⟨hI',by simp at hL hpl ⊢;omega,hA,λt ht=>hB t (w6 _ ht)⟩,by simp,.le ?_ ?_ rfl⟩;{cbv;exact⟨lR,lR,lR,lR,zU (by simp[enc,yU]),trivial⟩};{cbv;exact⟨okA,okA,okA,zC rfl,trivial⟩}
    ·(have cmb:=hmul b hb;have cab:=hadd a b ha hb;have cp:=Xq out ⟨w1,w2,w3⟩ a.1 (zK (a.2.q+b.2.q*cq)) ((hasz a b ha hb).mono (by decide)) oM;rw[yD] at cp;have hI':M=pcr out a.1 (a.2.q+b.2.q*cq)++mrg cq (tq aa) (tq bb):=by rw[hI,b7,b7,mrg,if_neg (show ¬(a.1,a.2.q).1<(b.1,b.2.q).1 from hlt),if_neg (show ¬(b.1,b.2.q).1<(a.1,a.2.q).1 from hlt2),dJ]);have hpl:=dI out a.1 (a.2.q+b.2.q*cq)
     generalize pcr out a.1 (a.2.q+b.2.q*cq)=out' at *;generalize zK (a.2.q+b.2.q*cq)=Y at *;generalize zK (b.2.q*cq)=X at *;cbv;refine zP 16 (by cbv) ?_;cbv;refine fC wP wH ?_;cbv;refine fC wP wH ?_;cbv;refine fC wP wH ?_;cbv;refine dA cmb ?_;cbv;refine dA cab ?_;cbv;refine kA (λ_=>200) cp ?_;cbv;refine zP 5 (by cbv) ?_;cbv;refine⟨qY (by decide) (by simp[zB] <;> omega) (by simp[zB]),wD wH _,?_⟩;cbv;refine⟨qY (by decide) (by simp[zB] <;> omega) (by simp[zB]),wD wH _,?_⟩;cbv;refine⟨(out',aa,bb),⟨hI',by simp at hL hpl ⊢;omega,λt ht=>hA t (w6 _ ht),λt ht=>hB t (w6 _ ht)⟩,by simp <;> omega,.le ?_ ?_ rfl⟩;{cbv;exact⟨lR,lR,lR,zU (by simp[enc,yU]),zU (by simp[enc,yU]),trivial⟩};{cbv;exact⟨okA,okA,okA,zC rfl,trivial⟩}
def YF (z:Int)(h1:-1000<=z)(h2:z<=1000):(zK (z:Rat)).sz 1:=z5 (mV (by show z.natAbs<4294967296^1;omega) (by decide))
def D2 (f g:A)(hf:f.sz (2^33))(hg:g.sz (2^33)):zH 135 [av f,av g] (fv (f.f.add g.f)):=by refine sF Tryz.f135 ?_;have c1:=JX 1 (by decide) (by decide);have cm:=Xr f g (zK ((1:Int):Rat)) hf hg ((YF 1 (by decide) (by decide)).mono (by decide));rw[yD] at cm;have e:f.f.merge g.f ((1:Int):Rat)=f.f.add g.f:=rfl;rw[e] at cm;generalize fA (f.f.add g.f)=W at *;generalize zK ((1:Int):Rat)=o at *;obtain⟨ft,f1,f2,f3⟩:=f;obtain⟨gt,g1,g2,g3⟩:=g;obtain⟨wt,w1,w2,w3⟩:=W;cbv;refine zP 4 (by cbv) ?_;cbv;refine dA c1 ?_;cbv;refine dA cm ?_;cbv;exact rA
def pS (f g:A)(hf:f.sz (2^33))(hg:g.sz (2^33)):zH 132 [av f,av g] (fv (f.f.sub g.f)):=by refine sF Tryz.f132 ?_;have c1:=JX (-1) (by decide) (by decide);have cm:=Xr f g (zK ((-1:Int):Rat)) hf hg ((YF (-1) (by decide) (by decide)).mono (by decide));rw[yD] at cm;have e:f.f.merge g.f ((-1:Int):Rat)=f.f.sub g.f:=rfl;rw[e] at cm;generalize fA (f.f.sub g.f)=W at *;generalize zK ((-1:Int):Rat)=o at *;obtain⟨ft,f1,f2,f3⟩:=f;obtain⟨gt,g1,g2,g3⟩:=g;obtain⟨wt,w1,w2,w3⟩:=W;cbv;refine zP 4 (by cbv) ?_;cbv;refine dA c1 ?_;cbv;refine dA cm ?_;cbv;exact rA
def Xp (f:A)(c:R)(hf:f.sz (2^33))(hc:c.sz (2^33)):zH 144 [av f,rv c] (fv (f.f.scale c.q)):=by refine sF Tryz.f144 ?_;have cm:=Xr ⟨[],⟨false,[],[]⟩⟩ f c ⟨⟨by decide,λ_ h=>absurd h (by simp)⟩,⟨by decide,by decide⟩⟩ hf hc;have e:(A.f ⟨[],⟨false,[],[]⟩⟩).merge f.f c.q=f.f.scale c.q:=rfl;rw[e] at cm;generalize fA (f.f.scale c.q)=W at *;obtain⟨ft,f1,f2,f3⟩:=f;obtain⟨c1,c2,c3⟩:=c;obtain⟨wt,w1,w2,w3⟩:=W;cbv;refine xI rfl okA cm rfl ?_;cbv;exact rA
structure Row where
 k:Int
 i:Int
 lo:Int
 hi:Int
deriving DecidableEq
structure Mult where
 row:Row
 c:R
deriving DecidableEq
structure Dec where
 k:Int
 i:Int
 x:R
structure Lem where
 u:Int
 up:Bool
 v:R
 pf:List Mult
structure Grp where
 n:Int
 us:List A
 os:List A
structure Reg where
 lo:List R
 hi:List R
 rows:List A
structure Qry where
 g:Grp
 r:Reg
 goal:A
structure Scp where
 q:Qry
 path:List Dec
 lems:List Lem
abbrev rlv (l:List R):PV:=.sl (λ_=>enc rc l)
abbrev alv (l:List A):PV:=.sl (λ_=>enc ac l)
abbrev rwc (r:Row):List PV:=[iV r.k,iV r.i,iV r.lo,iV r.hi]
abbrev rwv (r:Row):PV:=.agg [iV r.k,iV r.i,iV r.lo,iV r.hi]
def mc (m:Mult):List PV:=[iV m.row.k,iV m.row.i,iV m.row.lo,iV m.row.hi,zM m.c.neg,nat m.c.num,nat m.c.den]
abbrev mv (m:Mult):PV:=.agg [iV m.row.k,iV m.row.i,iV m.row.lo,iV m.row.hi,zM m.c.neg,nat m.c.num,nat m.c.den]
abbrev mlv (l:List Mult):PV:=.sl (λ_=>enc mc l)
def dc (d:Dec):List PV:=[iV d.k,iV d.i,zM d.x.neg,nat d.x.num,nat d.x.den]
abbrev dv (d:Dec):PV:=.agg [iV d.k,iV d.i,zM d.x.neg,nat d.x.num,nat d.x.den]
abbrev dlv (l:List Dec):PV:=.sl (λ_=>enc dc l)
def lc (l:Lem):List PV:=[iV l.u,zM l.up,zM l.v.neg,nat l.v.num,nat l.v.den,mlv l.pf]
abbrev llv (l:List Lem):PV:=.sl (λ_=>enc lc l)
abbrev gv (g:Grp):PV:=.agg [iV g.n,alv g.us,alv g.os]
abbrev rgv (r:Reg):PV:=.agg [rlv r.lo,rlv r.hi,alv r.rows]
abbrev qv (q:Qry):PV:=.agg [iV q.g.n,alv q.g.us,alv q.g.os,rlv q.r.lo,rlv q.r.hi,alv q.r.rows,tsv q.goal.ts,zM q.goal.c.neg,nat q.goal.c.num,nat q.goal.c.den]
abbrev sv (s:Scp):PV:=.agg [iV s.q.g.n,alv s.q.g.us,alv s.q.g.os,rlv s.q.r.lo,rlv s.q.r.hi,alv s.q.r.rows,tsv s.q.goal.ts,zM s.q.goal.c.neg,nat s.q.goal.c.num,nat s.q.goal.c.den,dlv s.path,llv s.lems]
def sc (s:Scp):List PV:=[iV s.q.g.n,alv s.q.g.us,alv s.q.g.os,rlv s.q.r.lo,rlv s.q.r.hi,alv s.q.r.rows,tsv s.q.goal.ts,zM s.q.goal.c.neg,nat s.q.goal.c.num,nat s.q.goal.c.den,dlv s.path,llv s.lems]
def w5 (a:Mult):yX qT (mc a)=true:=rfl
def x6 (a:Mult):(mc a).length=7:=rfl
def tC (a:Dec):yX qT (dc a)=true:=rfl
def iW (a:Dec):(dc a).length=5:=rfl
def kC (a:Lem):yX qT (lc a)=true:=rfl
def j7 (a:Lem):(lc a).length=6:=rfl
structure Asz (k:Nat) (l:List A):Prop where
 len:l.length<2^38
 sz:∀ a,a∈l->a.sz k
structure Rsz (k:Nat) (l:List R):Prop where
 len:l.length<2^38
 sz:∀ a,a∈l->a.sz k
structure Msz (k:Nat) (l:List Mult):Prop where
 len:l.length<2^38
 sz:∀ a,a∈l->a.c.sz k
structure Dsz (k:Nat) (l:List Dec):Prop where
 len:l.length<2^38
 sz:∀ a,a∈l->a.x.sz k
structure Lsz (k:Nat) (l:List Lem):Prop where
 len:l.length<2^38
 sz:∀ a,a∈l->a.v.sz k
 pf:∀ a,a∈l->Msz k a.pf
structure Grp.sz (g:Grp) (k:Nat):Prop where
 us:Asz k g.us
 os:Asz k g.os
structure Reg.sz (r:Reg) (k:Nat):Prop where
 lo:Rsz k r.lo
 hi:Rsz k r.hi
 rows:Asz k r.rows
structure Qry.sz (q:Qry) (k:Nat):Prop where
 g:q.g.sz k
 r:q.r.sz k
 goal:q.goal.sz k
structure Scp.sz (s:Scp) (k:Nat):Prop where
 q:s.q.sz k
 path:Dsz k s.path
 lems:Lsz k s.lems
theorem Asz.mono {k m:Nat}{l}(h:Asz k l)(hm:k<=m):Asz m l:=⟨h.len,λa ha=>(h.sz a ha).mono hm⟩
theorem Rsz.mono {k m:Nat}{l}(h:Rsz k l)(hm:k<=m):Rsz m l:=⟨h.len,λa ha=>(h.sz a ha).mono hm⟩
theorem Msz.mono {k m:Nat}{l}(h:Msz k l)(hm:k<=m):Msz m l:=⟨h.len,λa ha=>(h.sz a ha).mono hm⟩
theorem Dsz.mono {k m:Nat}{l}(h:Dsz k l)(hm:k<=m):Dsz m l:=⟨h.len,λa ha=>(h.sz a ha).mono hm⟩
theorem Lsz.mono {k m:Nat}{l}(h:Lsz k l)(hm:k<=m):Lsz m l:=⟨h.len,λa ha=>(h.sz a ha).mono hm,λa ha=>(h.pf a ha).mono hm⟩
theorem Grp.sz.mono {k m:Nat}{g:Grp}(h:g.sz k)(hm:k<=m):g.sz m:=⟨h.us.mono hm,h.os.mono hm⟩
theorem Reg.sz.mono {k m:Nat}{g:Reg}(h:g.sz k)(hm:k<=m):g.sz m:=⟨h.lo.mono hm,h.hi.mono hm,h.rows.mono hm⟩
theorem Qry.sz.mono {k m:Nat}{g:Qry}(h:g.sz k)(hm:k<=m):g.sz m:=⟨h.g.mono hm,h.r.mono hm,h.goal.mono hm⟩
theorem Scp.sz.mono {k m:Nat}{g:Scp}(h:g.sz k)(hm:k<=m):g.sz m:=⟨h.q.mono hm,h.path.mono hm,h.lems.mono hm⟩
def vU:Int->List A->Bool
 |_,[]=>true| k,f::r=>f.valid k&&vU (k+1) r
def Grp.vars (g:Grp):Int:=g.n+g.us.length
def Grp.valid (g:Grp):Bool:=decide (1<=g.n/\g.n<=256/\g.us.length<=1024/\1<=g.os.length/\g.os.length<=256)&&vU g.n g.us&&g.os.all (A.valid g.vars)
def vB:List R->List R->Bool
 |l::ls,h::hs=>l.ok&&h.ok&&decide (wX l.q h.q<=0)&&vB ls hs| _,_=>true
def Reg.valid (n:Int) (r:Reg):Bool:=decide (1<=n/\n<=256/\(r.lo.length:Int)=n/\(r.hi.length:Int)=n/\r.rows.length<=256)&&vB r.lo r.hi&&r.rows.all (A.valid n)
def Qry.valid (q:Qry):Bool:=q.g.valid&&q.r.valid q.g.n&&q.goal.valid q.g.vars
def Dec.fits (q:Qry) (d:Dec):Bool :=
 if d.k=1\/d.k=2 then decide (0<=d.i/\d.i<q.g.us.length)&&decide (d.x=⟨false,[],[]⟩)
 else if d.k=3\/d.k=4 then decide (0<=d.i/\d.i<q.g.n)&&d.x.ok
 else false
def kI {α:Type} (P:α->Bool):List α->Int
 |[]=>-1| a::r=>if P a then 0 else if kI P r<0 then -1 else kI P r+1
def nW {α:Type}(P:α->Bool):∀ l:List α,-1<=kI P l
 |[]=>by simp[kI]| a::r=>by grind [kI]
def KL {α:Type}(P:α->Bool):∀ l:List α,0<=kI P l↔l.any P=true
 |[]=>by simp[kI]| a::r=>by have ih:=KL P r;rw[List.any_cons,QL,<-ih];rw[show kI P (a::r)=if P a then 0 else if kI P r<0 then -1 else kI P r+1 from rfl];grind
def X5 {α:Type}(P:α->Bool)(l:List α):decide (0<=kI P l)=l.any P:=by rw[rK,decide_eq_true_eq,KL]
def les_refl:∀ a:PV,les a a
 |.agg cs=>allLe_refl1 cs| .tup cs=>allLe_refl1 cs| .fn f cs=>⟨nqb_self f,allLe_refl1 cs⟩| .int k n=>lR| .tt=>lR| .ff=>lR| .bool b=>lR| .nbool b=>lR| .str s=>lR| .nil=>lR| .sl els=>lR| .ptr n o=>lR| .aptr n s i o=>lR| .dptr cs o=>lR| .osl n s o l=>lR| .nilf=>lR| .nilp=>lR| .emp=>lR| .any=>lR
where
 les1_refl:∀ a:PV,KA a a
  |.agg cs=>allLeS_refl cs| .tup cs=>allLeS_refl cs| .fn f cs=>lR| .int k n=>lR| .tt=>lR| .ff=>lR| .bool b=>lR| .nbool b=>lR| .str s=>lR| .nil=>lR| .sl els=>lR| .ptr n o=>lR| .aptr n s i o=>lR| .dptr cs o=>lR| .osl n s o l=>lR| .nilf=>lR| .nilp=>lR| .emp=>lR| .any=>lR
 allLeS_refl:∀ l:List PV,jC LeS l l
  |[]=>trivial| a::r=>⟨pC a,allLeS_refl r⟩
 allLe_refl1:∀ l:List PV,jC KA l l
  |[]=>trivial| a::r=>⟨les1_refl a,allLe_refl1 r⟩
def pB:∀ l:List PV,jC les l l
 |[]=>trivial| a::r=>⟨les_refl a,pB r⟩
theorem kS (l:List PV):jC KA l l:=les_refl.allLe_refl1 l
def Uv (T:List (Nat×PV)):List Nat->List (Nat×PV)
 |[]=>[]| t::r=>(t,zD T t)::Uv T r
def Zp (O:List (Nat×Obj')):List Nat->List (Nat×Obj')
 |[]=>[]
 |n::r=>(match yK O n with
  |some o=>(n,o)::Zp O r| none=>Zp O r)
def ndN:List Nat->Bool
 |[]=>true| n::r=>!(yM n r)&&ndN r
def KQ:∀ (hs:List (PV×(Unit->Nat))),hLe hs hs
 |[]=>trivial| (v,k)::r=>⟨⟨lR,lR⟩,KQ r⟩
def J6:∀ o:Obj',W5 o o
 |.mat s r hs=>⟨nqb_self s,⟨rfl⟩,KQ hs⟩| .box cs=>pB cs| .arr s e=>⟨nqb_self s,⟨rfl⟩⟩| .log s e=>⟨nqb_self s,⟨rfl⟩⟩| .lent s e=>⟨nqb_self s,⟨rfl⟩⟩
def Gl (T:List (Nat×PV)):∀ L,leT T (Uv T L)
 |[]=>trivial| t::r=>⟨les_refl _,Gl T r⟩
def U3 (O:List (Nat×Obj')):∀ M,leO O (Zp O M)
 |[]=>trivial| n::r=>by
  unfold Zp;cases h:yK O n with
  |none=>exact U3 O r| some o =>
   refine⟨?_,U3 O r⟩;rw[h];exact J6 o
def Wa (O:List (Nat×Obj'))(m:Nat):∀ M,yM m M=false->KP m (Zp O M)=false
 |[],_=>rfl| n::r,h=>by
  simp only[yM,Bool.or_eq_false_iff] at h;unfold Zp;cases yK O n with
  |none=>exact Wa O m r h.2| some o =>
   simp only[KP,Bool.or_eq_false_iff];refine⟨?_,Wa O m r h.2⟩;grind
def UV (O:List (Nat×Obj')):∀ M,ndN M=true->ndO (Zp O M)=true
 |[],_=>rfl| n::r,h=>by
  simp only[ndN,xA,WY] at h;unfold Zp;cases yK O n with
  |none=>exact UV O r h.2| some o =>
   simp only[ndO,xA,WY];exact⟨Wa O n r h.1,UV O r h.2⟩
theorem Wk.sel (ps:PS)(L M:List Nat)(h:ndN M=true):Wk ps ⟨Uv ps.tmps L,Zp ps.objs M⟩:=.le (Gl _ _) (U3 _ _) (UV _ _ h)
def BN {g as_ dst ps K f caps args' r}(L M:List Nat)(hM:ndN M=true)(h1:ev (zD (Uv ps.tmps L)) g=.fn f caps)(h2:jC les (evs (ev (zD (Uv ps.tmps L))) as_++caps) args')(h3:zH f args' r)(h5:nmIn [] r=true) (h4:K (put ⟨Uv ps.tmps L,Zp ps.objs M⟩ dst r)):CallOk g as_ dst ps K:=j4 (Wk.sel ps L M hM) h1 h2 h3 h5 h4
def BF {ops:List Oper}{ps:PS}{K:PS->Prop}(k:Nat)(L M:List Nat)(hM:ndN M=true)(hd:fG ops k=true)(h:Yw ops [] (yR (ops.take k)) (Zp ps.objs M) (ops.take k) 0 (Uv ps.tmps L) (Zp ps.objs M) (λT O=>VP (yR (ops.take k)) T (jB ops (ops.drop k) ⟨T,O⟩ K)))(hm:(ndO (yR (ops.take k))&&UY ⟨Uv ps.tmps L,Zp ps.objs M⟩ (yR (ops.take k)))=true:=by cbv):DrawK ops ps K:=.ef k [] _ (Wk.sel ps L M hM) hd rfl hm h
def BH {ops:List Oper}{ps:PS}{K:PS->Prop}(k:Nat)(L M:List Nat)(hM:ndN M=true)(hd:fG ops k=true)(hm:(ndO (yR (ops.take k))&&UY ⟨Uv ps.tmps L,Zp ps.objs M⟩ (yR (ops.take k)))=true) (h:Yw ops [] (yR (ops.take k)) (Zp ps.objs M) (ops.take k) 0 (Uv ps.tmps L) (Zp ps.objs M) (λT O=>VP (yR (ops.take k)) T (jB ops (ops.drop k) ⟨T,O⟩ K))):DrawK ops ps K:=.ef k [] _ (Wk.sel ps L M hM) hd rfl hm h
def MI (P:A->Bool)(l:List A)(hl:l.length<2^40)(g:FuncId)(caps:List PV)(hg:∀ a,a∈l->zH g (.agg (ac a)::caps) (zM (P a))):zH 185 [.sl (λ_=>enc ac l),.fn g caps] (iV (kI P l)):=by
 refine sF Tryz.f185 ?_;generalize hr:kI P l=r;cbv;refine zY (σ:=Nat) (λi=>⟨[(0,.sl (λ_=>enc ac l)),(1,.fn g caps),(7,iV l.length),(8,iV i)],[]⟩)
  (λi=>i<=l.length/\r=(if kI P (l.drop i)<0 then -1 else kI P (l.drop i)+i)) (λi=>l.length-i) 0 ⟨om,?_⟩ (.le ?_ ?_ rfl) ?_
 {rw[vS,hr];have:=nW P l;omega};{cbv;exact⟨lR,(by cases caps <;> first|trivial|grind [les_refl.les1_refl,kS]),zF (by (try dsimp only [zS] at *);rw[zB]),lR,trivial⟩};{cbv};intro i hs;obtain⟨h1,h2⟩:=hs;cbv;refine zG (λh5=>?_) (λh5=>?_)
 ·cbv;refine wB (l:=l) i (by (grind) <;> (try simp only[zJ] at *) <;> omega) om kX fI (λt ht=>?_);have hc:=hg t (yE ht);rw[yJ ht,show kI P (t::l.drop (i+1))=if P t then 0 else if kI P (l.drop (i+1))<0 then -1 else kI P (l.drop (i+1))+1 from rfl] at h2;have hge:=nW P (l.drop (i+1));generalize P t=p at *;generalize hk:kI P (l.drop (i+1))=k at *;cbv;refine xI rfl (by exact⟨les_refl _,pB caps⟩) hc rfl ?_;cbv;refine zZ (λh6=>?_) (λh6=>?_)
  ·subst h6;cbv
   (refine rC ?_;cbv)
   exact zF (by (try dsimp only [zS] at *);grind)
  ·subst h6;cbv;refine⟨zE om om,i+1,⟨om,?_⟩,om,.le ?_ ?_ rfl⟩
   ·(try dsimp only [zS] at *)
    grind
   {cbv;exact⟨lR,(by cases caps <;> first|trivial|grind [les_refl.les1_refl,kS]),lR,zF om,trivial⟩};{cbv}
 ·have:i=l.length:=om;rw[this,vE] at h2;cbv
  (refine rC ?_;cbv)
  exact zF (by rw[h2];simp[kI])
def Rc (P:A->Bool)(l:List A)(hl:l.length<2^40)(g:FuncId)(caps:List PV)(hg:∀ a,a∈l->zH g (.agg (ac a)::caps) (zM (P a))):zH 125 [.sl (λ_=>enc ac l),.fn g caps] (zM (l.any P)):=by refine sF Tryz.f125 ?_;have hc:=MI P l hl g caps hg;rw[<-X5];generalize kI P l=k at *;cbv;refine xI rfl (by exact⟨lR,⟨nqb_self g,kS caps⟩,trivial⟩) hc rfl ?_;cbv;exact rA
def MG (P:Mult->Bool)(l:List Mult)(hl:l.length<2^40)(g:FuncId)(caps:List PV)(hg:∀ a,a∈l->zH g (.agg (mc a)::caps) (zM (P a))):zH 220 [.sl (λ_=>enc mc l),.fn g caps] (iV (kI P l)):=by
 refine sF Tryz.f220 ?_;generalize hr:kI P l=r;cbv;refine zY (σ:=Nat) (λi=>⟨[(0,.sl (λ_=>enc mc l)),(1,.fn g caps),(7,iV l.length),(8,iV i)],[]⟩)
  (λi=>i<=l.length/\r=(if kI P (l.drop i)<0 then -1 else kI P (l.drop i)+i)) (λi=>l.length-i) 0 ⟨om,?_⟩ (.le ?_ ?_ rfl) ?_
 {rw[vS,hr];have:=nW P l;rw[hr] at this;split <;> omega};{cbv;exact⟨lR,(by cases caps <;> first|trivial|exact⟨les_refl.les1_refl _,kS _⟩),zF (by (try dsimp only [zS] at *);rw[zB]),lR,trivial⟩};{cbv};intro i hs;obtain⟨h1,h2⟩:=hs;cbv;refine zG (λh5=>?_) (λh5=>?_)
 ·cbv;refine wB (l:=l) i om om w5 x6 (λt ht=>?_);have hc:=hg t (yE ht);rw[yJ ht,show kI P (t::l.drop (i+1))=if P t then 0 else if kI P (l.drop (i+1))<0 then -1 else kI P (l.drop (i+1))+1 from rfl] at h2;have hge:=nW P (l.drop (i+1));generalize P t=p at *;generalize hk:kI P (l.drop (i+1))=k at *;cbv;refine xI rfl (by exact⟨les_refl _,pB caps⟩) hc rfl ?_;cbv;refine zZ (λh6=>?_) (λh6=>?_)
  ·subst h6;cbv
   (refine rC ?_;cbv)
   exact zF (by (try dsimp only [zS] at *);simp at h2;omega)
  ·subst h6;cbv;refine⟨zE om om,i+1,⟨om,?_⟩,om,.le ?_ ?_ rfl⟩
   ·(try dsimp only [zS] at *)
    simp only[Bool.false_eq_true,if_false] at h2;rw[hk,h2];split <;> split <;> omega
   {cbv;exact⟨lR,(by cases caps <;> first|trivial|exact⟨les_refl.les1_refl _,kS _⟩),lR,zF om,trivial⟩};{cbv}
 ·have:i=l.length:=om;rw[this,vE] at h2;cbv
  (refine rC ?_;cbv)
  exact zF (by rw[h2];simp[kI])
def MJ (P:Mult->Bool)(l:List Mult)(hl:l.length<2^40)(g:FuncId)(caps:List PV)(hg:∀ a,a∈l->zH g (.agg (mc a)::caps) (zM (P a))):zH 174 [.sl (λ_=>enc mc l),.fn g caps] (zM (l.any P)):=by refine sF Tryz.f174 ?_;have hc:=MG P l hl g caps hg;rw[<-X5];generalize kI P l=k at *;cbv;refine xI rfl (by exact⟨lR,⟨nqb_self g,kS caps⟩,trivial⟩) hc rfl ?_;cbv;exact rA
def MH (P:Dec->Bool)(l:List Dec)(hl:l.length<2^40)(g:FuncId)(caps:List PV)(hg:∀ a,a∈l->zH g (.agg (dc a)::caps) (zM (P a))):zH 227 [.sl (λ_=>enc dc l),.fn g caps] (iV (kI P l)):=by
 refine sF Tryz.f227 ?_;generalize hr:kI P l=r;cbv;refine zY (σ:=Nat) (λi=>⟨[(0,.sl (λ_=>enc dc l)),(1,.fn g caps),(7,iV l.length),(8,iV i)],[]⟩)
  (λi=>i<=l.length/\r=(if kI P (l.drop i)<0 then -1 else kI P (l.drop i)+i)) (λi=>l.length-i) 0 ⟨om,?_⟩ (.le ?_ ?_ rfl) ?_
 {rw[vS,hr];have:=nW P l;omega};{cbv;exact⟨lR,(by cases caps <;> first|trivial|grind [les_refl.les1_refl,kS]),zF (by (try dsimp only [zS] at *);rw[zB]),lR,trivial⟩};{cbv};intro i hs;obtain⟨h1,h2⟩:=hs;cbv;refine zG (λh5=>?_) (λh5=>?_)
 ·cbv;refine wB (l:=l) i (by (grind) <;> (try simp only[zJ] at *) <;> omega) om tC iW (λt ht=>?_);have hc:=hg t (yE ht);rw[yJ ht,show kI P (t::l.drop (i+1))=if P t then 0 else if kI P (l.drop (i+1))<0 then -1 else kI P (l.drop (i+1))+1 from rfl] at h2;have hge:=nW P (l.drop (i+1));generalize P t=p at *;generalize hk:kI P (l.drop (i+1))=k at *;cbv;refine xI rfl (by exact⟨les_refl _,pB caps⟩) hc rfl ?_;cbv;refine zZ (λh6=>?_) (λh6=>?_)
  ·subst h6;cbv
   (refine rC ?_;cbv)
   exact zF (by (try dsimp only [zS] at *);grind)
  ·subst h6;cbv;refine⟨zE om om,i+1,⟨om,?_⟩,om,.le ?_ ?_ rfl⟩
   ·(try dsimp only [zS] at *)
    grind
   {cbv;exact⟨lR,(by cases caps <;> first|trivial|grind [les_refl.les1_refl,kS]),lR,zF om,trivial⟩};{cbv}
 ·have:i=l.length:=om;rw[this,vE] at h2;cbv
  (refine rC ?_;cbv)
  exact zF (by rw[h2];simp[kI])
def MK (P:Dec->Bool)(l:List Dec)(hl:l.length<2^40)(g:FuncId)(caps:List PV)(hg:∀ a,a∈l->zH g (.agg (dc a)::caps) (zM (P a))):zH 191 [.sl (λ_=>enc dc l),.fn g caps] (zM (l.any P)):=by refine sF Tryz.f191 ?_;have hc:=MH P l hl g caps hg;rw[<-X5];generalize kI P l=k at *;cbv;refine xI rfl (by exact⟨lR,⟨nqb_self g,kS caps⟩,trivial⟩) hc rfl ?_;cbv;exact rA
def NN (a:A)(vars:Int)(ha:a.sz (2^36)):zH 184 [.agg (ac a),.dptr [iV vars] 0] (zM (!a.valid vars)):=by
 refine sF Tryz.f184 ?_;have c1:=gF a vars ha;generalize a.valid vars=r at *;obtain⟨ts,c1',c2,c3⟩:=a;cbv;refine cA c1 ?_;cbv
 (refine rC ?_;cbv)
 exact vW rfl
def GL {α:Type}(p:α->Bool)(l:List α):l.all p=!(l.any λa=>!(p a)):=by grind
def NM (l:List A)(vars:Int)(hl:Asz (2^36) l):zH 124 [alv l,iV vars] (zM (l.all (A.valid vars))):=by
 refine sF Tryz.f124 ?_;have c1:=Rc (λa=>!(a.valid vars)) l (gC hl.len (by decide)) 184 [.dptr [iV vars] 0] (λa ha=>NN a vars (hl.sz a ha));rw[GL];generalize (l.any λa=>!(a.valid vars))=r at *;cbv;refine j4 (.frz 3 rfl rfl (by repeat' first|exact trivial|apply And.intro) (by repeat' first|exact trivial|apply And.intro)) rfl (by exact⟨lR,⟨rfl,lR,trivial⟩,trivial⟩) c1 rfl ?_;cbv
 (refine rC ?_;cbv)
 exact vW rfl
def HE (k:Int)(f:A)(r:List A):vU k (f::r)=(f.valid k&&vU (k+1) r):=rfl
def Ke (g:Grp)(hg:g.sz (2^36)):zH 79 [gv g] (zM g.valid):=by
 refine sF Tryz.f79 ?_;obtain⟨n,us,os⟩:=g;have hu:=hg.us.sz;have hul:=hg.us.len;have hol:=hg.os.len;have hos:=λvars=>NM os vars hg.os;clear hg;simp only at hu hul hol hos;generalize hr:Grp.valid ⟨n,us,os⟩=r;have hr0:r=(decide (1<=n/\n<=256/\us.length<=1024/\1<=os.length/\os.length<=256)&&vU n us&&os.all (A.valid (n+us.length))):=hr.symm;clear hr;have hno:¬(1<=n/\n<=256/\us.length<=1024/\1<=os.length/\os.length<=256)->r=false:=λh=>by grind
 cbv;refine zX (λe1=>?_) (λe1=>?_)
 ·cbv
  (refine rC ?_;cbv)
  exact zO (hno om)
 cbv;refine zX (λe2=>?_) (λe2=>?_)
 ·cbv
  (refine rC ?_;cbv)
  exact zO (hno om)
 cbv;refine zX (λe3=>?_) (λe3=>?_)
 ·cbv
  (refine rC ?_;cbv)
  exact zO (hno (by simp only[zB] at e3;exact om))
 cbv;refine zX (λe4=>?_) (λe4=>?_)
 ·cbv
  (refine rC ?_;cbv)
  exact zO (hno (by simp only[zB] at e4;exact om))
 cbv;refine zG (λe5=>?_) (λe5=>?_)
 ·cbv
  (refine rC ?_;cbv)
  exact zO (hno (by simp only[zB] at e5;exact om))
 rw[zB] at e3 e4 e5
 (try dsimp only [zS] at *)
 rw[decide_eq_true oM,xQ] at hr0;clear hno;cbv;refine zY (σ:=Nat) (λi=>⟨[(1,.ptr 1 0),(32,alv us),(33,iV us.length),(34,iV i)],[(1,.box [iV n,alv us,alv os])]⟩)
  (λi=>i<=us.length/\r=(vU (n+i) (us.drop i)&&os.all (A.valid (n+us.length)))) (λi=>us.length-i) 0 ⟨om,?_⟩ (.le ?_ ?_ rfl) ?_
 {grind};{cbv;exact⟨lR,lR,zF (by (try dsimp only [zS] at *);rw[zB]),lR,trivial⟩};{cbv;exact okA};clear hr0;intro i hs;obtain⟨h1,h2⟩:=hs;cbv;refine zG (λh5=>?_) (λh5=>?_)
 ·(cbv;refine wB (l:=us) i (by (grind) <;> (try simp only[zJ] at *) <;> omega) om kX fI (λt ht=>?_);have cv:=gF t (n+i) (hu t (yE ht));rw[yJ ht,HE] at h2;have e:n+(i:Int)+1=n+((i+1:Nat):Int):=by omega);rw[e] at h2
  generalize hv:t.valid (n+i)=v at *;obtain⟨t1,t2,t3,t4⟩:=t;cbv;refine⟨zE om om,?_⟩;cbv;refine cA cv ?_;cbv;refine zZ (λh6=>?_) (λh6=>?_);{subst h6;rw[xQ] at h2;cbv;refine⟨zE om om,i+1,⟨om,h2⟩,om,.le ?_ ?_ rfl⟩;{cbv;exact⟨lR,lR,lR,zF om,trivial⟩};{cbv;exact okA}}
  ·subst h6;cbv
   (refine rC ?_;cbv)
   exact zO (by grind)
 {have hi:i=us.length:=om;rw[hi,vE] at h2;have h2':r=os.all (A.valid (n+us.length)):=h2;have cv:=hos (n+us.length);rw[<-h2'] at cv;clear h2 h2' hos;cbv;refine⟨zE (by rw[zB];exact om) (by rw[zB];exact om),?_⟩;cbv;refine xI rfl (by exact⟨lR,zF (by rw[zB]),trivial⟩) cv rfl ?_;cbv;exact rA}
def NJ (a:A)(vars:Int)(ha:a.sz (2^36)):zH 126 [.agg (ac a),.dptr [iV vars] 0] (zM (!a.valid vars)):=by
 refine sF Tryz.f126 ?_;have c1:=gF a vars ha;generalize a.valid vars=r at *;obtain⟨ts,c1',c2,c3⟩:=a;cbv;refine cA c1 ?_;cbv
 (refine rC ?_;cbv)
 exact vW rfl
theorem HF (l:R)(ls)(h:R)(hs):vB (l::ls) (h::hs)=(l.ok&&h.ok&&decide (wX l.q h.q<=0)&&vB ls hs):=rfl
def yB {α:Type}{l:List α}{i:Nat}(h:i<l.length):∃ a,l[i]?=some a:=⟨l[i],by simp[h]⟩
def DS (g:Reg)(n:Int)(hg:g.sz (2^34)):zH 80 [rgv g,iV n] (zM (g.valid n)):=by
 refine sF Tryz.f80 ?_;obtain⟨lo,hi,rows⟩:=g;have hlo:=hg.lo.sz;have hhi:=hg.hi.sz;have hlol:=hg.lo.len;have hhil:=hg.hi.len;have hrl:=hg.rows.len;have hrs:=hg.rows.sz;simp only at hlo hhi hlol hhil hrl hrs;have cr:=Rc (λa=>!(a.valid n)) rows (gC hrl (by decide)) 126 [.dptr [iV n] 0] (λa ha=>NJ a n ((hrs a ha).mono (by decide)));generalize hr:Reg.valid n ⟨lo,hi,rows⟩=r;have hr0:r=(decide (1<=n/\n<=256/\(lo.length:Int)=n/\(hi.length:Int)=n/\rows.length<=256)&&vB lo hi&&rows.all (A.valid n)):=hr.symm;rw[GL] at hr0;generalize (rows.any λa=>!(a.valid n))=bad at *;clear hr hrs hg;have hno:¬(1<=n/\n<=256/\(lo.length:Int)=n/\(hi.length:Int)=n/\rows.length<=256)->r=false:=λh=>by grind
 cbv;refine zX (λe1=>?_) (λe1=>?_)
 ·cbv
  (refine rC ?_;cbv)
  exact zO (hno om)
 cbv;refine zX (λe2=>?_) (λe2=>?_)
 ·cbv
  (refine rC ?_;cbv)
  exact zO (hno om)
 cbv;refine zX (λe3=>?_) (λe3=>?_)
 ·cbv;refine zX (λe4=>?_) (λe4=>?_)
  ·cbv;refine zG (λe5=>?_) (λe5=>?_)
   ·cbv
    (refine rC ?_;cbv)
    exact zO (hno (by simp only[zB] at e5;exact om))
   rw[zB] at e3 e4 e5
   (try dsimp only [zS] at *)
   rw[decide_eq_true oM,xQ] at hr0;clear hno;cbv;refine zY (σ:=Nat) (λi=>⟨[(2,.ptr 2 0),(3,.ptr 3 0),(34,rlv lo),(35,iV lo.length),(36,iV i)],[(2,.box [rlv lo,rlv hi,alv rows]),(3,.box [iV n])]⟩)
    (λi=>i<=lo.length/\r=(vB (lo.drop i) (hi.drop i) && !bad)) (λi=>lo.length-i) 0 ⟨om,hr0⟩ (.le ?_ ?_ rfl) ?_
   {cbv;exact⟨lR,lR,lR,zF (by (try dsimp only [zS] at *);rw[zB]),lR,trivial⟩};{cbv;exact okA};clear hr0;intro i hs;obtain⟨h1,h2⟩:=hs;cbv;refine zG (λh5=>?_) (λh5=>?_)
   ·cbv;refine wB (l:=lo) i (by (grind) <;> (try simp only[zJ] at *) <;> omega) om jW cH (λl hl=>?_);obtain⟨h,hh⟩:∃ h,hi[i]?=some h:=yB (by exact om);rw[yJ hl,yJ hh,HF] at h2;have hls:=hlo l (yE hl);have hhs:=hhi h (yE hh);have cl:=Cb l (hls.mono (by decide));have ch:=Cb h (hhs.mono (by decide));have cc:=Si l h hls hhs;generalize wX l.q h.q=cq at *;generalize l.ok=o1 at *;generalize h.ok=o2 at *;obtain⟨l1,l2,l3⟩:=l;cbv;refine zP 22 (by cbv) ?_;cbv;refine dA cl ?_;cbv;refine yI (λe6=>?_) (λe6=>?_)
    ·(subst e6;cbv;refine wB (l:=hi) i (by (grind) <;> (try simp only[zJ] at *) <;> omega) om jW cH (λh' hh'=>?_);obtain rfl:h'=h:=by grind);obtain⟨k1,k2,k3⟩:=h'
     cbv;refine dA ch ?_;cbv;refine yI (λe7=>?_) (λe7=>?_)
     ·(subst e7;cbv;refine wB (l:=hi) i (by (grind) <;> (try simp only[zJ] at *) <;> omega) om jW cH (λh'' hh''=>?_);obtain rfl:h''=⟨k1,k2,k3⟩:=by grind);cbv
      refine dA cc ?_;cbv;refine zG (λe8=>?_) (λe8=>?_)
      ·cbv
       (refine rC ?_;cbv)
       exact zO (by grind)
      {rw[decide_eq_true oM] at h2;cbv;refine⟨zE om om,i+1,⟨om,h2⟩,om,.le ?_ ?_ rfl⟩;{cbv;exact⟨lR,lR,lR,lR,zF om,trivial⟩};{cbv;exact okA}}
     ·subst e7;cbv
      (refine rC ?_;cbv)
      exact zO (by grind)
    ·subst e6;cbv
     (refine rC ?_;cbv)
     exact zO (by grind)
   ·(have hi':i=lo.length:=om;rw[hi',vE] at h2;have h2':r=!bad:=by rw[h2];cases hi.drop lo.length <;> rfl);clear h2
    cbv;refine j4 (.frz 3 rfl rfl (by repeat' first|exact trivial|apply And.intro) (by repeat' first|exact trivial|apply And.intro)) rfl (by exact⟨lR,⟨rfl,lR,trivial⟩,trivial⟩) cr rfl ?_;cbv
    (refine rC ?_;cbv)
    exact vW h2'
  ·cbv
   (refine rC ?_;cbv)
   exact zO (hno (by simp only[zB] at e4;exact om))
 ·cbv
  (refine rC ?_;cbv)
  exact zO (hno (by simp only[zB] at e3;exact om))
def mE (q:Qry)(hq:q.sz (2^34)):zH 32 [qv q] (zM q.valid):=by
 refine sF Tryz.f32 ?_;have cg:=Ke q.g (hq.g.mono (by decide));have crg:=DS q.r q.g.n hq.r;have cl:=gF q.goal q.g.vars (hq.goal.mono (by decide));have hul:=hq.g.us.len;have hr:q.valid=(q.g.valid&&q.r.valid q.g.n&&q.goal.valid q.g.vars):=rfl;have hn:q.g.valid=true->1<=q.g.n/\q.g.n<=256:=λh=>by unfold Grp.valid at h;grind
 rw[hr];clear hr hq;obtain⟨⟨n,us,os⟩,⟨lo,hi,rows⟩,⟨ts,c1,c2,c3⟩⟩:=q;simp only at hn hul cg crg cl ⊢;have hv:Grp.vars ⟨n,us,os⟩=n+us.length:=rfl;rw[hv] at cl ⊢;generalize Grp.valid ⟨n,us,os⟩=b1 at *;generalize Reg.valid n ⟨lo,hi,rows⟩=b2 at *;generalize hb3:A.valid (n+us.length) ⟨ts,c1,c2,c3⟩=b3 at *;cbv;refine cA cg ?_;cbv;refine yI (λe6=>?_) (λe6=>?_)
 ·subst e6;have hn':=hn rfl;cbv;refine cA crg ?_;cbv;refine yI (λe7=>?_) (λe7=>?_)
  ·subst e7;cbv;refine⟨zE (by rw[zB];exact om) (by rw[zB];exact om),?_⟩;refine xI rfl (by exact⟨okA,zF (by rw[zB]),trivial⟩) cl rfl ?_;cbv
   (refine rC ?_;cbv)
   exact z4 (by rfl)
  {subst e7;cbv;exact rA}
 {subst e6;cbv;exact rA}
end Go.Proofs.YtboocdbmnfjomaaGreat
