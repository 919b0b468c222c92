/- A part of the proof: RgA, RgB. -/
import Derived.Test.YtaeaffgjdcigoaaGreatW21
import Derived.Test.YtaeaffgjdcigoaaGreatW22
set_option linter.all false
namespace Go.Proofs.YtaeaffgjdcigoaaGreat
open Go
set_option maxRecDepth 100000
set_option maxHeartbeats 1000000
abbrev tvq (v:Int) (x:R):PV:=.agg [iV v,zL x.neg,nat x.num,nat x.den]
def sNz (l:List (Int×Rat))(v:Int)(q:Rat)(hq:Fits (2^36) q)(hl:l.length<2^39):Sound 162 [yX 100 4 l.length,tvq v (zI q)] [] [(100,xF 4 (enc tc (tR l)))] (yX 100 4 ((pcr l v q).length)) [] [(100,xF 4 (enc tc (tR (pcr l v q))))]:=by refine sF Tryz.f162 ?_;have cs:=s35 (zI q) (by have:=(zU hq).n;omega);rw[z6] at cs;have h1:yA q≠0->pcr l v q=l++[(v,q)]:=λh=>if_neg (sgnQ_ne.1 h);have h2:yA q=0->pcr l v q=l:=λh=>if_pos (by grind [sgnQ_ne]);have hR:tR [(v,q)]=[(v,zI q)]:=rfl;generalize pcr l v q=P at *;generalize yA q=sg at *;generalize zI q=W at *;clear hq;cbv;refine cA cs ?_;cbv;refine zF (λh=>?_) (λh=>?_);{have hP:=h2 h;cbv;subst hP;exact tY 100 (.refl _) rfl rfl rfl (by cbv;exact lR)};{have hP:=h1 h;cbv;subst hP;refine wM H5 rfl rfl rfl (by simp only[zA,vD]) rfl ⟨by simp[zW,xT]⟩ (z8 oM (by simp only[zA,vD,zW,rK,dO];omega)) rfl ?_;cbv;refine tY (ps':=⟨[(4,yX 13 4 ((l++[(v,q)]).length))],[(13,xF 4 (enc tc (tR (l++[(v,q)]))))]⟩) 13 (.le ?_ ?_ rfl) rfl rfl rfl ?_;{cbv;exact⟨zT rfl (by simp[zA,vD,zW]),trivial⟩};{cbv;exact⟨zG (by rw[DI,hR,<-j6];rfl),trivial⟩};{cbv;exact lR}}
def xO (v:Int) (q:Rat):Bool->List (Int×Rat)->List (Int×Rat)
 |d,[]=>if d=true then [] else pc v q []| d,t::r=>if t.1=v then pc t.1 (t.2+q) (xO v q true r) else if d=false/\v<t.1 then pc v q (pc t.1 t.2 (xO v q true r)) else pc t.1 t.2 (xO v q d r)
def R4 (l:List (Int×Rat))(fc:R)(v:Int)(c:R)(hl:Tfit (2^30) l)(hc:c.sz (2^30)):zC 175 [av ⟨tR l,fc⟩,iV v,rv c] (av ⟨tR (xO v c.q false l),fc⟩):=by
 refine sF Tryz.f175 ?_;have cfc:=hc.fits (by decide);have cc:=s47 c (hc.mono (by decide));have hll:=hl.len;have hadd:∀ t,t∈l->zC 18 [rv (zI t.2),rv c] (rv (zI (t.2+c.q))):=λt ht=>by have:=s44 (zI t.2) c ((zU (hl.fit t ht)).mono (by decide)) (hc.mono (by decide));rw[z6] at this;omega
 have hasz:∀ t,t∈l->Fits (2^36) (t.2+c.q):=λt ht=>(kC (hl.fit t ht) cfc).mono (by decide);have htsz:∀ t,t∈l->Fits (2^36) t.2:=λt ht=>(hl.fit t ht).mono (by decide);have hqsz:Fits (2^36) c.q:=cfc.mono (by decide);generalize hM:xO v c.q false l=M;generalize hcq:c.q=q at *;clear hl hc hcq cfc;cbv;refine z7 (σ:=List (Int×Rat)×Nat×Bool) (λs=>⟨[(1,iV v),(3,.ptr 3 0),(5,.ptr 5 0),(6,.ptr 6 0),(7,yX 200 4 s.1.length),(8,zL s.2.2),(9,iV s.2.1)],
   [(3,.box [tsv (tR l),zL fc.neg,nat fc.num,nat fc.den]),(5,.box [zL c.neg,nat c.num,nat c.den]),(6,.box [.nil,.ff,.nil,.nil]),(200,xF 4 (enc tc (tR s.1)))]⟩)
  (λs=>s.2.1<=l.length/\s.1.length<=2*s.2.1/\M=s.1++xO v q s.2.2 (l.drop s.2.1)) (λs=>l.length-s.2.1)
  ([],0,false) ⟨om,by simp,hM.symm⟩
  (.trans (.le (ps':=⟨[(1,iV v),(3,.ptr 3 0),(5,.ptr 5 0),(6,.ptr 6 0),(7,.nil),(8,zL false),(9,iV (((0:Nat):Int)))],[(3,.box [tsv (tR l),zL fc.neg,nat fc.num,nat fc.den]),(5,.box [zL c.neg,nat c.num,nat c.den]),(6,.box [.nil,.ff,.nil,.nil])]⟩) ?_ ?_ rfl)
   (.trans (.adoptT (ps:=⟨[(1,iV v),(3,.ptr 3 0),(5,.ptr 5 0),(6,.ptr 6 0),(7,.nil),(8,zL false),(9,iV (((0:Nat):Int)))],[(3,.box [tsv (tR l),zL fc.neg,nat fc.num,nat fc.den]),(5,.box [zL c.neg,nat c.num,nat c.den]),(6,.box [.nil,.ff,.nil,.nil])]⟩) 200 4 7 rfl rfl) (.le ?_ ?_ rfl))) ?_
 {cbv;exact⟨lR,lR,lR,lR,lR,zK rfl,zB rfl,trivial⟩};{cbv;exact okA};{cbv;exact⟨lR,lR,lR,lR,zT rfl rfl,lR,lR,trivial⟩};{cbv;exact⟨okA,okA,okA,zG rfl,trivial⟩};intro s hs;obtain⟨h1,hL,hI⟩:=hs;generalize s.1=out at *;generalize s.2.1=i at *;generalize s.2.2=d at *;clear hM;cbv;refine zF (λh5=>?_) (λh5=>?_)
 ·cbv;refine xQ (l:=tR l) i (by (grind) <;> (try simp only[zH] at *) <;> omega) (by simp only[zA,vD] at h5 ⊢;exact om) wT wO (λt' ht'=>?_);obtain⟨t,ht,rfl⟩:∃ t,l[i]?=some t/\t'=(t.1,zI t.2):=by unfold tR at ht';grind
  (have hmem:=z3 ht;have hlt:i<l.length:=(wE.1 ht).1;rw[zY ht,show xO v q d (t::l.drop (i+1))=if t.1=v then pc t.1 (t.2+q) (xO v q true (l.drop (i+1))) else if d=false/\v<t.1 then pc v q (pc t.1 t.2 (xO v q true (l.drop (i+1)))) else pc t.1 t.2 (xO v q d (l.drop (i+1))) from rfl] at hI;have f1:t.1=v->M=pcr out t.1 (t.2+q)++xO v q true (l.drop (i+1)):=λe=>by rw[hI,if_pos e,fX]);have f2:¬t.1=v->d=false->v<t.1->M=pcr (pcr out v q) t.1 t.2++xO v q true (l.drop (i+1)):=λe e2 e3=>by rw[hI,if_neg e,if_pos ⟨e2,e3⟩,fX,fX]
  (have f3:¬t.1=v->¬(d=false/\v<t.1)->M=pcr out t.1 t.2++xO v q d (l.drop (i+1)):=λe e2=>by rw[hI,if_neg e,if_neg e2,fX]);clear hI
  obtain⟨Y,hY⟩:=ex (zI t.2);rw[hY];cbv;refine zF (λe1=>?_) (λe1=>?_);{have hI':M=pcr out t.1 (t.2+q)++xO v q true (l.drop (i+1)):=f1 e1;have ca:=hadd t hmem;have cz:=sNz out t.1 (t.2+q) (hasz t hmem) oM;have hpl:=fW out t.1 (t.2+q);generalize pcr out t.1 (t.2+q)=out' at *;generalize zI (t.2+q)=X at *;rw[hY] at ca;cbv;refine cA ca ?_;cbv;refine kW (λ_=>200) (Wk.sel _ [1,3,5,6,8,9,46,47] [3,5,6,200] rfl) cz ?_;cbv;refine⟨zD om om,(out',i+1,true),⟨om,om,hI'⟩,om,.le ?_ ?_ rfl⟩;{cbv;exact⟨lR,lR,lR,lR,lR,yV rfl,zB om,trivial⟩};{cbv;exact⟨okA,okA,okA,zG rfl,trivial⟩}};{cbv;refine yB (λe2=>?_) (λe2=>?_);{have hI':M=pcr out t.1 t.2++xO v q d (l.drop (i+1)):=f3 e1 (λh=>absurd (e2.symm.trans h.1) (by decide));have cz:=sNz out t.1 t.2 (htsz t hmem) oM;have hpl:=fW out t.1 t.2;generalize pcr out t.1 t.2=out' at *;rw[hY] at cz;cbv;refine kW (λ_=>200) (Wk.sel _ [1,3,5,6,8,9,46,47] [3,5,6,200] rfl) cz ?_;cbv;refine⟨zD om om,(out',i+1,d),⟨om,om,hI'⟩,om,.le ?_ ?_ rfl⟩;{cbv;exact⟨lR,lR,lR,lR,lR,lR,zB om,trivial⟩};{cbv;exact⟨okA,okA,okA,zG rfl,trivial⟩}};{cbv;refine zF (λe3=>?_) (λe3=>?_);{have hI':M=pcr (pcr out v q) t.1 t.2++xO v q true (l.drop (i+1)):=f2 e1 e2 e3;have cz1:=sNz out v q hqsz oM;have hpl1:=fW out v q;have cz2:=sNz (pcr out v q) t.1 t.2 (htsz t hmem) oM;have hpl2:=fW (pcr out v q) t.1 t.2;generalize pcr (pcr out v q) t.1 t.2=out2 at *;generalize pcr out v q=out1 at *;rw[hY] at cz2;generalize zI q=X at *;cbv;refine cA cc ?_;cbv;refine kW (λ_=>200) (Wk.sel _ [1,3,5,6,9,10,40,44] [3,5,6,10,200] rfl) cz1 ?_;cbv;refine kW (λ_=>200) (Wk.sel _ [1,3,5,6,8,9,46,47] [3,5,6,200] rfl) cz2 ?_;cbv;refine⟨zD om om,(out2,i+1,true),⟨om,om,hI'⟩,om,.le ?_ ?_ rfl⟩;{cbv;exact⟨lR,lR,lR,lR,lR,yV rfl,zB om,trivial⟩};{cbv;exact⟨okA,okA,okA,zG rfl,trivial⟩}};{have hI':M=pcr out t.1 t.2++xO v q d (l.drop (i+1)):=f3 e1 (λh=>e3 h.2);have cz:=sNz out t.1 t.2 (htsz t hmem) oM;have hpl:=fW out t.1 t.2;generalize pcr out t.1 t.2=out' at *;rw[hY] at cz;cbv;refine kW (λ_=>200) (Wk.sel _ [1,3,5,6,8,9,46,47] [3,5,6,200] rfl) cz ?_;cbv;refine⟨zD om om,(out',i+1,d),⟨om,om,hI'⟩,om,.le ?_ ?_ rfl⟩;{cbv;exact⟨lR,lR,lR,lR,lR,lR,zB om,trivial⟩};{cbv;exact⟨okA,okA,okA,zG rfl,trivial⟩}}}}
 ·(have hi:i=l.length:=by simp only[zA,vD] at h5;exact om);rw[hi,vE] at hI
  cbv;refine zO (λe1=>?_) (λe1=>?_)
  ·(have hM':M=out:=by rw[hI,e1];exact jV _);cbv
   subst hM';refine bD _ (.trans (.le (ps':=⟨[(6,.ptr 6 0)],[(6,.box [yX 200 4 M.length,zL fc.neg,nat fc.num,nat fc.den]),(200,xF 4 (enc tc (tR M)))]⟩) ?_ ?_ rfl) (.frz 200 rfl rfl ?_ ?_)) rfl ?_;{cbv;exact okA};{cbv;exact⟨okA,zG rfl,trivial⟩};{exact⟨trivial,trivial⟩};{cbv;exact⟨⟨zZ (by simp[zA,vD]),trivial⟩,trivial⟩};{cbv;exact⟨zR (yU (by simp[zA,vD])),lR,lR,lR,trivial⟩}
  ·(have hM':M=pcr out v q:=by rw[hI,e1];show out++pc v q []=_;rw[<-fX,jV]);have cz1:=sNz out v q hqsz oM;rw[<-hM'] at cz1;generalize zI q=X at *;cbv;refine cA cc ?_;cbv;refine kW (λ_=>200) (Wk.sel _ [3,6,51,55] [3,6,200] rfl) cz1 ?_;cbv;refine bD _ (.trans (.le (ps':=⟨[(6,.ptr 6 0)],[(6,.box [yX 200 4 M.length,zL fc.neg,nat fc.num,nat fc.den]),(200,xF 4 (enc tc (tR M)))]⟩) ?_ ?_ rfl) (.frz 200 rfl rfl ?_ ?_)) rfl ?_;{cbv;exact okA};{cbv;exact⟨okA,zG rfl,trivial⟩};{exact⟨trivial,trivial⟩};{cbv;exact⟨⟨zZ (by simp[zA,vD]),trivial⟩,trivial⟩};{cbv;exact⟨zR (yU (by simp[zA,vD])),lR,lR,lR,trivial⟩}
def sX (v:Int)(q:Rat):∀ {l:List (Int×Rat)},(∀ t,t∈l->t.1≠v)->Cn l->xO v q true l=l
 |[],_,_=>rfl| t::r,h,hc=>by have h1:=h t wI;have ih:=sX v q (λu hu=>h u (wJ _ hu)) hc.tail;rw[show xO v q true (t::r)=if t.1=v then pc t.1 (t.2+q) (xO v q true r) else if true=false/\v<t.1 then pc v q (pc t.1 t.2 (xO v q true r)) else pc t.1 t.2 (xO v q true r) from rfl];rw[if_neg h1,if_neg (by simp),ih];unfold pc;rw[if_neg hc.hd]
def XL (v:Int)(q:Rat)(t:Int×Rat)(r:List (Int×Rat)):xO v q false (t::r)=if t.1=v then pc t.1 (t.2+q) (xO v q true r) else if v<t.1 then pc v q (pc t.1 t.2 (xO v q true r)) else pc t.1 t.2 (xO v q false r):=by rw[show xO v q false (t::r)=if t.1=v then pc t.1 (t.2+q) (xO v q true r) else if false=false/\v<t.1 then pc v q (pc t.1 t.2 (xO v q true r)) else pc t.1 t.2 (xO v q false r) from rfl];grind
def pX {v:Int}{q:Rat}:∀ {d:Bool} {l:List (Int×Rat)} {u},u∈xO v q d l->u.1=v\/∃ t,t∈l/\t.1=u.1
 |true,[],u,h=>absurd h (by simp[xO])| false,[],u,h=>by
  rcases qL (show u∈pc v q [] from h) with rfl|h
  all_goals grind
 |d,t::r,u,h=>by
  unfold xO at h;split at h
  ·rcases qL h with rfl|h;{omega}
   ·rcases pX h with h|⟨w,h1,h2⟩
    all_goals grind
  ·split at h
   ·rcases qL h with rfl|h;{omega}
    ·rcases qL h with rfl|h;{grind}
     ·rcases pX h with h|⟨w,h1,h2⟩
      all_goals grind
   ·rcases qL h with rfl|h;{grind}
    ·rcases pX h with h|⟨w,h1,h2⟩
     all_goals grind
theorem Cn.plus {v:Int}{q:Rat}:∀ {l:List (Int×Rat)},Cn l->Cn (xO v q false l)
 |[],_=>Cn.pc Cn.nil (λu hu=>absurd hu (by simp))| t::r,h=>by rw[XL];split;{rename_i e;rw[sX v q (λu hu=>by have:=h.lt u hu;omega) h.tail];exact Cn.pc h.tail h.lt};{split;{rename_i e1 e2;rw[sX v q (λu hu=>by have:=h.lt u hu;omega) h.tail];refine Cn.pc (Cn.pc h.tail h.lt) λu hu=>?_;rcases qL hu with rfl|hu;{exact e2};{exact Int.lt_trans e2 (h.lt u hu)}};{rename_i e1 e2;refine Cn.pc (Cn.plus h.tail) λu hu=>?_;rcases pX hu with e|⟨w,g1,g2⟩;{omega};{rw[<-g2];exact h.lt w g1}}}
theorem Zn {v:Int}{q:Rat}(w:Int):∀ {l:List (Int×Rat)},Cn l->co (xO v q false l) w=co l w+if v=w then q else 0
 |[],_=>by show co (pc v q []) w=_;grind [iF]| t::r,h=>by rw[XL];split;{rename_i e;rw[sX v q (λu hu=>by have:=h.lt u hu;omega) h.tail,iF];grind [co]};{split;{rw[sX v q (λu hu=>by have:=h.lt u hu;omega) h.tail,iF,iF];grind [co]};{rw[iF,Zn w h.tail];grind [co]}}
def plusAll (l g:List (Int×Rat)):List (Int×Rat):=g.foldl (λa t=>xO t.1 t.2 false a) l
theorem Cn.plusAll:∀ {g l:List (Int×Rat)},Cn l->Cn (plusAll l g)
 |[],l,h=>h| t::g,l,h=>Cn.plusAll (g:=g) h.plus
theorem i9 (w:Int):∀ {g l:List (Int×Rat)},Cn l->co (plusAll l g) w=co l w+co g w
 |[],l,h=>by show co l w=_;grind [co]| t::g,l,h=>by show co (plusAll (xO t.1 t.2 false l) g) w=_;rw[i9 w h.plus,Zn w h];grind [co]
def Kv {l g:List (Int×Rat)}(hl:Cn l)(hg:Cn g):plusAll l g=mrg 1 l g :=
 Cn.ext hl.plusAll (hl.mrg hg) λv=>by grind [i9,rG]
def U4 (l g:List (Int×Rat))(t:Int×Rat):plusAll l (g++[t])=xO t.1 t.2 false (plusAll l g):=by grind [plusAll]
theorem Cn.co_mem {l:List (Int×Rat)}(h:Cn l){t}(ht:t∈l):co l t.1=t.2:=by
 induction l with
 |nil=>grind| cons a r ih =>
  rcases yG.1 ht with rfl|ht;{exact d7 h};{have:=h.lt t ht;simp only[co,if_neg (show a.1≠t.1 by omega),ih h.tail ht];grind}
theorem QF {k:Nat}{l:List (Int×Rat)}(h:Cn l)(hf:∀ t,t∈l->Fits k t.2)(hk:1<=k)(v:Int):Fits k (co l v):=by by_cases hx:∃ t,t∈l/\t.1=v;{obtain⟨t,h1,rfl⟩:=hx;rw[h.co_mem h1];grind};{rw[tP λt ht e=>hx ⟨t,ht,e⟩];exact uL hk}
theorem Cn.take {l:List (Int×Rat)}(h:Cn l)(n:Nat):Cn (l.take n):=⟨h.s.sublist (List.take_sublist n l),λt ht=>h.n t (aE ht)⟩
def nY (v:Int)(q:Rat):∀ (d:Bool) (l:List (Int×Rat)),(xO v q d l).length<=l.length+(if d=true then 0 else 1)
 |true,[]=>by simp[xO]| false,[]=>by grind [pE,xO]| d,t::r=>by have h1:=nY v q true r;have h2:=nY v q d r;unfold xO;split;{have:=pE t.1 (t.2+q) (xO v q true r);grind};{split;{rename_i e;have g1:=pE t.1 t.2 (xO v q true r);have g2:=pE v q (pc t.1 t.2 (xO v q true r));grind};grind [pE]}
theorem Yq:∀ (g l:List (Int×Rat)),(plusAll l g).length<=l.length+g.length
 |[],l=>by simp[plusAll]| t::g,l=>by have h1:=Yq g (xO t.1 t.2 false l);have h2:=nY t.1 t.2 false l;show (plusAll (xO t.1 t.2 false l) g).length<=_;grind
def Kw {k m:Nat}{l g:List (Int×Rat)}(hl:Cn l)(hg:Cn g)(hfl:∀ t,t∈l->Fits k t.2)(hfg:∀ t,t∈g->Fits m t.2)(hk:1<=k)(hm:1<=m):∀ t,t∈plusAll l g->Fits (k+m+1) t.2:=λt ht=>by rw[<-hl.plusAll.co_mem ht,i9 _ hl];grind [kC,QF]
def iO (x:R):zC 165 [rv x] (av ⟨[],x⟩):=by refine sF Tryz.f165 ?_;cbv;exact rA
def XD (v:Int):zC 119 [iV v] (fv (F.var v)):=by
 refine sF Tryz.f119 ?_;have c1:=s32 1 (by decide) (by decide);have e:fv (F.var v)=.agg [.sl (λ_=>[xT [iV v,zL ((zI ((1:Int):Rat)).neg),nat (zI ((1:Int):Rat)).num,nat (zI ((1:Int):Rat)).den]]),zL R0.neg,nat R0.num,nat R0.den]:=by show av ⟨[(v,zI 1)],zI 0⟩=_;rw[uJ];rfl
 rw[e];clear e;generalize zI ((1:Int):Rat)=o at *;cbv;refine cA c1 ?_;cbv
 (refine rC ?_;cbv)
 exact⟨zR rfl,zK rfl,yM rfl,yM rfl,trivial⟩
theorem DH (l:List (Int×R)):(tq l).length=l.length:=by simp[tq]
def Qf (c:Rat)(b:Int×Rat)(bb):mrg c [] (b::bb)=pc b.1 (b.2*c) (mrg c [] bb):=by rw[mrg]
def XE (f:A)(c:R)(hf:f.sz (2^31))(hc:c.sz (2^31)):zC 100 [av f,rv c] (fv (f.f.scale c.q)):=by
 refine sF Tryz.f100 ?_;have ccf:=hc.fits (by decide);have hst:=hf.t.sz;have hll:=hf.t.len;have cm:=s77 f.c c hf.c hc;have hmul:∀ b:Int×R,b∈f.ts->zC 84 [rv b.2,rv c] (rv (zI (b.2.q*c.q))):=λb hb=>s77 b.2 c (hst b hb) hc;have hmsz:∀ b:Int×R,b∈f.ts->Fits (2^36) (b.2.q*c.q):=λb hb=>(y8 ((hst b hb).fits (by decide)) ccf).mono (by decide);have e:fv (f.f.scale c.q)=.agg [tsv (tR (mrg c.q [] (tq f.ts))),zL ((zI (f.c.q*c.q)).neg),nat (zI (f.c.q*c.q)).num,nat (zI (f.c.q*c.q)).den]:=by show av ⟨tR (mrg c.q [] (tq f.ts)),zI (0+f.c.q*c.q)⟩=_;rw[Rat.zero_add]
 rw[e];clear e;generalize hM:mrg c.q [] (tq f.ts)=M;generalize zI (f.c.q*c.q)=W at *;generalize hcq:c.q=q at *;clear hf hc hcq ccf;cbv;refine cA cm ?_;cbv;refine z7 (σ:=List (Int×Rat)×Nat) (λs=>⟨[(2,.ptr 2 0),(3,.ptr 3 0),(4,.ptr 4 0),(5,.ptr 5 0),(6,iV s.2)],
   [(2,.box [tsv f.ts,zL f.c.neg,nat f.c.num,nat f.c.den]),(3,.box [zL c.neg,nat c.num,nat c.den]),(4,.box [.nil,.ff,.nil,.nil]),(5,.box [yX 200 4 s.1.length,zL W.neg,nat W.num,nat W.den]),(200,xF 4 (enc tc (tR s.1)))]⟩)
  (λs=>s.2<=f.ts.length/\s.1.length<=s.2/\M=s.1++mrg q [] (tq (f.ts.drop s.2))) (λs=>f.ts.length-s.2)
  ([],0) ⟨om,by simp,hM.symm⟩
  (.trans (.le (ps':=⟨[(2,.ptr 2 0),(3,.ptr 3 0),(4,.ptr 4 0),(5,.ptr 5 0),(6,iV (((0:Nat):Int)))],[(2,.box [tsv f.ts,zL f.c.neg,nat f.c.num,nat f.c.den]),(3,.box [zL c.neg,nat c.num,nat c.den]),(4,.box [.nil,.ff,.nil,.nil]),(5,.box [.nil,zL W.neg,nat W.num,nat W.den])]⟩) ?_ ?_ rfl)
   (.trans (.adoptB (ps:=⟨[(2,.ptr 2 0),(3,.ptr 3 0),(4,.ptr 4 0),(5,.ptr 5 0),(6,iV (((0:Nat):Int)))],[(2,.box [tsv f.ts,zL f.c.neg,nat f.c.num,nat f.c.den]),(3,.box [zL c.neg,nat c.num,nat c.den]),(4,.box [.nil,.ff,.nil,.nil]),(5,.box [.nil,zL W.neg,nat W.num,nat W.den])]⟩) (cs:=[.nil,zL W.neg,nat W.num,nat W.den]) 200 4 5 0 rfl rfl rfl) (.le ?_ ?_ rfl))) ?_
 {cbv;exact⟨lR,lR,lR,lR,zB rfl,trivial⟩};{cbv;exact okA};{cbv;exact okA};{cbv;exact⟨okA,okA,okA,⟨zT rfl rfl,lR,lR,lR,trivial⟩,zG rfl,trivial⟩};clear hM;intro s hs;obtain⟨h1,hL,hI⟩:=hs;generalize s.1=out at *;generalize s.2=i at *;cbv;refine zF (λh5=>?_) (λh5=>?_)
 ·(rw[zA] at h5;have hlt:i<f.ts.length:=by exact om);obtain⟨t,ht⟩:=zS hlt
  (have hmem:=z3 ht;rw[zY ht,aI,Qf] at hI;have hI':M=pcr out t.1 (t.2.q*q)++mrg q [] (tq (f.ts.drop (i+1))):=by rw[hI,fX]);clear hI
  have ca:=hmul t hmem;have cz:=sNz out t.1 (t.2.q*q) (hmsz t hmem) oM;have hpl:=fW out t.1 (t.2.q*q);generalize pcr out t.1 (t.2.q*q)=out' at *;generalize zI (t.2.q*q)=X at *;have idx:∀ {K:List PV->Prop},K (tc t)->IdxOk 4 (λ_=>enc tc f.ts) (λ_=>(i:Int)) K:=λhK=>xQ (l:=f.ts) i rfl hlt wT wO (λm' hm'=>by grind);cbv;refine zM 17 (by cbv) ?_;cbv;refine idx ?_;cbv;refine idx ?_;cbv;refine dA ca ?_;cbv;refine kW (λ_=>200) (Wk.sel _ [2,3,4,5,6,20,35] [2,3,4,5,200] rfl) cz ?_;cbv;refine⟨zD om om,(out',i+1),⟨om,om,hI'⟩,om,.le ?_ ?_ rfl⟩;{cbv;exact⟨lR,lR,lR,lR,zB om,trivial⟩};{cbv;exact⟨okA,okA,okA,okA,zG rfl,trivial⟩}
 ·(have hi:i=f.ts.length:=by rw[zA] at h5;exact om);rw[hi,vE] at hI
  (have hM':M=out:=by rw[hI,show tq []=[] from rfl,mrg,jV]);clear hI
  cbv;subst hM';refine bD _ (.trans (.le (ps':=⟨[(4,.ptr 4 0)],[(4,.box [yX 200 4 M.length,zL W.neg,nat W.num,nat W.den]),(200,xF 4 (enc tc (tR M)))]⟩) ?_ ?_ rfl) (.frz 200 rfl rfl ?_ ?_)) rfl ?_;{cbv;exact okA};{cbv;exact⟨okA,zG rfl,trivial⟩};{exact⟨trivial,trivial⟩};{cbv;exact⟨⟨zZ (by simp[zA,vD]),trivial⟩,trivial⟩};{cbv;exact⟨zR (yU (by simp[zA,vD])),lR,lR,lR,trivial⟩}
def DY (l:List (Int×Rat))(fc:R)(g:A)(hl:Cn l)(hg:Cn (tq g.ts))(hfl:Tfit (2^28) l)(hfc:fc.sz (2^31))(hgs:g.sz (2^28))(hlen:l.length+g.ts.length<2^37):zC 118 [av ⟨tR l,fc⟩,av g] (fv (F.add ⟨l,fc.q⟩ g.f)):=by
 refine sF Tryz.f118 ?_;have ca:=s44 fc g.c hfc (hgs.c.mono (by decide));have hgz:=hgs.t.sz;have e:fv (F.add ⟨l,fc.q⟩ g.f)=.agg [tsv (tR (plusAll l (tq g.ts))),zL ((zI (fc.q+g.c.q)).neg),nat (zI (fc.q+g.c.q)).num,nat (zI (fc.q+g.c.q)).den]:=by show av ⟨tR (mrg 1 l (tq g.ts)),zI (fc.q+g.c.q*1)⟩=_;rw[Rat.mul_one,Kv hl hg]
 rw[e];clear e;have hfit:∀ i,Tfit (2^30) (plusAll l (tq (g.ts.take i))):=λi=>by
  (have hg':Cn (tq (g.ts.take i)):=by have:=hg.take i;grind [tq,List.map_take]);refine⟨?_,λt ht=>(Kw (m:=2^28) hl hg' hfl.fit (λt ht=>?_) (by decide) (by decide) t ht).mono (by decide)⟩
  {grind [Yq,DH]};{unfold tq at ht;obtain⟨u,hu,rfl⟩:=yZ.1 ht;exact ((hgz u (aE hu)).fits (by decide):Fits (2^28) _)}
 have hlenP:∀ i,(plusAll l (tq (g.ts.take i))).length<2^38:=λi=>(hfit i).len;have hplus:∀ (i:Nat) (t:Int×R),g.ts[i]?=some t->zC 175 [av ⟨tR (plusAll l (tq (g.ts.take i))),zI (fc.q+g.c.q)⟩,iV t.1,rv t.2] (av ⟨tR (plusAll l (tq (g.ts.take (i+1)))),zI (fc.q+g.c.q)⟩):=λi t ht=>by
  have:=R4 (plusAll l (tq (g.ts.take i))) (zI (fc.q+g.c.q)) t.1 t.2 (hfit i) ((hgz t (z3 ht)).mono (by decide));have e:xO t.1 t.2.q false (plusAll l (tq (g.ts.take i)))=plusAll l (tq (g.ts.take (i+1))):=by
   (have:tq (g.ts.take (i+1))=tq (g.ts.take i)++[(t.1,t.2.q)]:=by grind [tq,List.take_add_one]);rw[this,U4]
  simp_all
 generalize zI (fc.q+g.c.q)=W at *;obtain⟨P,hP⟩:∃ P:Nat->List (Int×Rat),∀ i,P i=plusAll l (tq (g.ts.take i)):=⟨_,λ_=>rfl⟩;have hplus':∀ (i:Nat) (t:Int×R),g.ts[i]?=some t->zC 175 [av ⟨tR (P i),W⟩,iV t.1,rv t.2] (av ⟨tR (P (i+1)),W⟩):=λi t ht=>by simp_all
 have hP0:P 0=l:=hP 0;have hPe:plusAll l (tq g.ts)=P g.ts.length:=by grind
 rw[hPe];have hlP:(P g.ts.length).length<2^38:=by grind
 have hgl:=hgs.t.len;clear hplus hPe hfit hP hlenP hgs hfc hfl hgz hg hl;cbv;refine qV 9 (by cbv) (by cbv) ?_;cbv;refine dA ca ?_;cbv;refine z7 (σ:=Nat) (λi=>⟨[(3,.ptr 3 0),(4,.ptr 4 0),(5,.ptr 5 0),(6,iV i)],
   [(3,.box [tsv g.ts,zL g.c.neg,nat g.c.num,nat g.c.den]),(4,.box [.nil,.ff,.nil,.nil]),(5,.box [tsv (tR (P i)),zL W.neg,nat W.num,nat W.den])]⟩)
  (λi=>i<=g.ts.length) (λi=>g.ts.length-i) 0 oM (.le ?_ ?_ rfl) ?_
 {cbv;exact okA};{cbv;exact⟨okA,okA,⟨zR (by rw[hP0]),lR,lR,lR,trivial⟩,trivial⟩};clear hP0;intro i h1;cbv;refine zF (λh5=>?_) (λh5=>?_)
 ·(rw[zA] at h5;have hlt:i<g.ts.length:=by exact om);obtain⟨t,ht⟩:=zS hlt
  have cp:=hplus' i t ht;have idx:∀ {K:List PV->Prop},K (tc t)->IdxOk 4 (λ_=>enc tc g.ts) (λ_=>(i:Int)) K:=λhK=>xQ (l:=g.ts) i rfl hlt wT wO (λm' hm'=>by grind);generalize P i=p0 at *;generalize hp1:P (i+1)=p1 at *;cbv;refine zM 14 (by cbv) ?_;cbv;refine idx ?_;cbv;refine idx ?_;cbv;refine dA cp ?_;cbv;refine⟨zD om om,i+1,om,om,.le ?_ ?_ rfl⟩;{cbv;exact⟨lR,lR,lR,zB om,trivial⟩};{cbv;exact⟨okA,okA,⟨zR (by rw[hp1]),lR,lR,lR,trivial⟩,trivial⟩}
 ·(have hi:i=g.ts.length:=by rw[zA] at h5;exact om);subst hi
  clear hplus';generalize P g.ts.length=M at *;cbv;refine zM 7 (by cbv) ?_;cbv;refine⟨xE wO _,z8 (by simp only[zA,vD];exact om) (by simp only[zA,vD];exact om),?_⟩;cbv;exact rA
theorem Cn.scale {l:List (Int×Rat)}(h:Cn l)(c:Rat):Cn (Go.Proofs.YtaeaffgjdcigoaaGreat.mrg c [] l):=Cn.mrg Cn.nil h
def Sb {f g:F}(hf:Cn f.ts)(hg:Cn g.ts):f.sub g=f.add (g.scale (-1)):=by refine F.ext' ?_ ?_;{refine Cn.ext (hf.mrg hg) (hf.mrg (hg.scale (-1))) λv=>?_;show co (mrg (-1) f.ts g.ts) v=co (mrg 1 f.ts (mrg (-1) [] g.ts)) v;grind [rG,co]};{show f.c+g.c * -1=f.c+(0+g.c * -1)*1;grind}
def J5 (l:List (Int×Rat))(fc:R)(g:A)(hl:Cn l)(hg:Cn (tq g.ts))(hfl:Tfit (2^28) l)(hfc:fc.sz (2^31))(hgs:g.sz (2^26))(hlen:l.length+g.ts.length<2^37):zC 164 [av ⟨tR l,fc⟩,av g] (fv (F.sub ⟨l,fc.q⟩ g.f)):=by refine sF Tryz.f164 ?_;have c1:=s32 (-1) (by decide) (by decide);have c2:=XE g (zI ((-1:Int):Rat)) (hgs.mono (by decide)) ((oS (-1) (by decide) (by decide)).mono (by decide));rw[z6,show g.f.scale ((-1:Int):Rat)=g.f.scale (-1) from rfl] at c2;have fs:(g.f.scale (-1)).fit (2^28):=(nT (hgs.fit (by decide)) wK (by decide)).mono (by decide);have ls:=VI g.f (-1);have lg:g.f.ts.length=g.ts.length:=DH _;have e1:tq (fA (g.f.scale (-1))).ts=(g.f.scale (-1)).ts:=Q7 _;have c3:=DY l fc (fA (g.f.scale (-1))) hl (by rw[e1];exact hg.scale (-1)) hfl hfc fs.fA (by show l.length+(tR (g.f.scale (-1)).ts).length<_;grind [vD]);rw[qG,<-Sb (f:=⟨l,fc.q⟩) hl hg] at c3;dsimp only [fv] at c2 c3 ⊢;generalize fA (F.sub ⟨l,fc.q⟩ g.f)=W at *;generalize fA (g.f.scale (-1))=V at *;generalize zI ((-1:Int):Rat)=o at *;cbv;refine zM 5 (by cbv) ?_;cbv;refine dA c1 ?_;cbv;refine dA c2 ?_;cbv;refine dA c3 ?_;cbv;exact rA
end Go.Proofs.YtaeaffgjdcigoaaGreat
