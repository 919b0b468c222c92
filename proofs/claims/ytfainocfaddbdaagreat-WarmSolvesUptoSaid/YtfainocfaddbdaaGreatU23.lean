/- A part of the proof: RvA, RvB, DvA, RwC, RgA, RgB. -/
import Derived.Test.YtfainocfaddbdaaGreatU22
set_option linter.all false
namespace Go.Proofs.YtfainocfaddbdaaGreat
open Go
set_option maxRecDepth 100000
set_option maxHeartbeats 2000000
theorem sR7V (a:A)(vars:Int)(ha:a.sz (2^32)):zG 66 [av a,.int .i64 (fun _=>vars)] (.bool (fun _=>a.valid vars)):=by
 refine sF Tryz.f66 ?_;obtain⟨ts,c⟩:=a;have hl:=ha.t.len;have hts:=ha.t.sz;have cc:=s129 c ha.c;generalize hr:A.valid vars ⟨ts,c⟩=r;have hr0:r=(vT vars (-1) ts&&c.ok):=hr.symm;simp only at hl hts cc;generalize c.ok=co at *
 clear hr ha;cbv;refine zX (σ:=Nat×Int) (fun s=>⟨[(1,.int .i64 (fun _=>vars)),(2,.ptr 2 0),(5,.int .i64 (fun _=>(s.1:Int)))],[(2,.box [tsv ts,.bool (fun _=>c.neg),nat c.num,nat c.den])]⟩)
  (fun s=>s.1<=ts.length/\r=(vT vars s.2 (ts.drop s.1)&&co)/\(s.1=0->s.2=-1)/\(s.1≠0->∃ u,ts[s.1-1]?=some u/\u.1=s.2)) (fun s=>ts.length-s.1)
  (0,-1) ⟨om,hr0,fun _=>rfl,fun h=>absurd rfl h⟩ (wkZ) ?_
 intro s hs;obtain⟨h1,hv,h3,h4⟩:=hs;generalize s.1=i at *
 generalize s.2=p at *
 cbv;refine zD (fun h5=>?_) (fun h5=>?_)
 ·(obtain⟨t,ht⟩:=kT (j8 h5);rw[uX ht,zCO] at hv;have htz:=hts t (zZ ht);have cs:=s35 t.2 (by have:=htz.n;omega);have cv:=s129 t.2 htz;have hq:decide (t.2.q≠0)=decide (xF t.2.q≠0):=by rw[decide_eq_decide];exact sgnQ_ne.symm);rw[hq] at hv
  generalize xF t.2.q=sg at *
  generalize hok:t.2.ok=ok at *
  (generalize hrest:(vT vars t.1 (ts.drop (i+1))&&co)=rest;have hv':r=(decide (0<=t.1)&&decide (t.1<vars)&&decide (p<t.1)&&decide (sg≠0)&&ok&&rest):=by rw[hv,<-hrest];simp only[Bool.and_assoc]);have hi0:i<2^38:=by have:=(v4.1 ht).1;omega
  clear hv;cbv;refine xC ht kG jE ?_;cbv;refine zT 37 (by cbv) ?_;cbv;refine yD (fun e1=>?_) (fun e1=>?_)
  ·cbv
   (refine rC ?_;cbv)
   exact z5 (by rw[hv',decide_eq_false oM];rfl)
  cbv;refine yD (fun e2=>?_) (fun e2=>?_)
  ·cbv
   (refine rC ?_;cbv)
   exact z5 (by rw[hv',decide_eq_false (p:=t.1<vars) oM];simp)
  (cbv;have fin:(¬(p<t.1)->r=false):=fun h=>by rw[hv',decide_eq_false (p:=p<t.1) h];simp);have hmain:(p<t.1)->r=(decide (sg≠0)&&ok&&rest):=fun h=>by rw[hv',decide_eq_true (p:=p<t.1) h,decide_eq_true (p:=0<=t.1) oM,decide_eq_true (p:=t.1<vars) oM];simp only[wM]
  clear hv';have tail:r=(decide (sg≠0)&&ok&&rest)->True:=fun _=>trivial;refine yD (fun e3=>?_) (fun e3=>?_)
  ·obtain⟨u,hu,hu2⟩:=h4 om;cbv;refine⟨zC om om,zOH hu om kG jE ?_⟩;cbv;refine yD (fun e4=>?_) (fun e4=>?_)
   ·cbv
    (refine rC ?_;cbv)
    exact z5 (fin oM)
   have hm:=hmain oM;cbv;refine dA cs ?_;cbv;refine yD (fun e5=>?_) (fun e5=>?_)
   ·cbv
    (refine rC ?_;cbv)
    exact z5 (by rw[hm,decide_eq_false (by simpa using e5)];rfl)
   rw[decide_eq_true e5,wM] at hm;cbv;refine dA cv ?_;cbv;refine z6 (fun e6=>?_) (fun e6=>?_);{rw[e6,wM] at hm;cbv;exact⟨zC om om,(i+1,t.1),⟨by have:=(v4.1 ht).1;omega,by rw[hm,hrest],fun h=>absurd h (by simp),fun _=>⟨_,ht,rfl⟩⟩,by have:=(v4.1 ht).1;omega,wkZ⟩}
   ·cbv
    (refine rC ?_;cbv)
    exact z5 (by rw[hm,e6];rfl)
  ·have hp:=h3 om;have hm:=hmain oM;cbv;refine dA cs ?_;cbv;refine yD (fun e5=>?_) (fun e5=>?_)
   ·cbv
    (refine rC ?_;cbv)
    exact z5 (by rw[hm,decide_eq_false (by simpa using e5)];rfl)
   rw[decide_eq_true e5,wM] at hm;cbv;refine dA cv ?_;cbv;refine z6 (fun e6=>?_) (fun e6=>?_);{rw[e6,wM] at hm;cbv;exact⟨zC om om,(i+1,t.1),⟨by have:=(v4.1 ht).1;omega,by rw[hm,hrest],fun h=>absurd h (by simp),fun _=>⟨_,ht,rfl⟩⟩,by have:=(v4.1 ht).1;omega,wkZ⟩}
   ·cbv
    (refine rC ?_;cbv)
    exact z5 (by rw[hm,e6];rfl)
 ·(have he:=cV h5 h1;rw[he,vG] at hv;have hv':r=co:=by rw[hv];rfl);cbv
  refine cA cc ?_;cbv
  (refine rC ?_;cbv)
  exact yX hv'.symm


def F.zero:F:=⟨[],0⟩
theorem zV1:fA F.zero=⟨[],R0⟩:=by show (⟨[],zJ 0⟩:A)=_;rw[zFT]
theorem fits_one:Fits 1 1:=aL (z:=1) (by decide) (by decide)
theorem zNH (v:Int):(F.var v).fit 1:=⟨⟨by show 1<_;decide,fun t ht=>by
 have:t=(v,1):=by simpa[F.var] using ht
 rw[this];exact fits_one⟩,wD (by decide)⟩
theorem zPX {f g:F}{c:Rat}{k m:Nat}(hf:f.fit k)(hg:g.fit k)(hc:Fits m c)(hl:f.ts.length+g.ts.length<2^38):(f.merge g c).fit (2*k+m+1) :=
 ⟨⟨xJ (sH _ _ _) hl,nH hc hf.t.fit hg.t.fit⟩,(gG hf.c (uB hg.c hc)).mono oM⟩
theorem zGF:Fits 1 (-1):=aK fits_one
theorem zPL {f:F}{c:Rat}{k m:Nat}(hf:f.fit k)(hc:Fits m c)(hk:1<=k):(f.scale c).fit (2*k+m+1):=zPX ⟨⟨by show 0<_;decide,fun t ht=>absurd ht (by simp)⟩,wD hk⟩ hf hc (by show 0+_<_;have:=hf.t.len;omega)
theorem zPK (f:F)(c:Rat):(f.scale c).ts.length<=f.ts.length:=vS (sH _ _ _) (by simp)
abbrev tvq (v:Int) (x:R):PV:=.agg [.int .i64 (fun _=>v),.bool (fun _=>x.neg),nat x.num,nat x.den]
theorem sNz (l:List (Int×Rat))(v:Int)(q:Rat)(hq:Fits (2^36) q)(hl:l.length<2^39):Sound 68 [.osl 100 4 (fun _=>0) (fun _=>l.length),tvq v (zJ q)] [] [(100,.arr 4 (fun _=>enc tc (tR l)))] (.osl 100 4 (fun _=>0) (fun _=>(pcr l v q).length)) [] [(100,.arr 4 (fun _=>enc tc (tR (pcr l v q))))]:=by
 refine sF Tryz.f68 ?_;have cs:=s35 (zJ q) (by have:=(yF hq).n;omega);rw[yY] at cs;have h1:xF q≠0->pcr l v q=l++[(v,q)]:=fun h=>if_neg (sgnQ_ne.1 h);have h2:xF q=0->pcr l v q=l:=fun h=>if_pos (by have:=fun g=>sgnQ_ne.2 g h;simpa using this);have hR:tR [(v,q)]=[(v,zJ q)]:=rfl;generalize pcr l v q=P at *
 generalize xF q=sg at *
 generalize zJ q=W at *
 clear hq;cbv;refine cA cs ?_;cbv;refine zD (fun h=>?_) (fun h=>?_);{have hP:=h2 h;cbv;subst hP;exact zT6 100 (.refl _) rfl rfl rfl (by cbv;exact lR)};{have hP:=h1 h;cbv;subst hP;refine vW zNK rfl rfl rfl (by simp only[zK,uZ]) rfl ⟨by simp[yI,x6]⟩ (yB (by simp only[zK,uZ,yI,x7,f9];omega) (by simp only[zK,uZ,yI,x7,f9];omega)) rfl ?_;cbv;refine zT6 (ps':=⟨[(4,.osl 13 4 (fun _=>0) (fun _=>(l++[(v,q)]).length))],[(13,.arr 4 (fun _=>enc tc (tR (l++[(v,q)]))))]⟩) 13 (.le ?_ ?_ rfl) rfl rfl rfl ?_;{cbv;exact⟨zU rfl (by simp[zK,uZ,yI]),trivial⟩};{cbv;exact⟨zB (by rw[zX4,hR,<-cD];rfl),trivial⟩};{cbv;exact lR}}
def xR (v:Int) (q:Rat):Bool->List (Int×Rat)->List (Int×Rat)
 |d,[]=>if d=true then [] else pc v q []| d,t::r=>if t.1=v then pc t.1 (t.2+q) (xR v q true r) else if d=false/\v<t.1 then pc v q (pc t.1 t.2 (xR v q true r)) else pc t.1 t.2 (xR v q d r)
theorem zWW (l:List (Int×Rat))(fc:R)(v:Int)(c:R)(hl:Tfit (2^30) l)(hc:c.sz (2^30)):zG 72 [av ⟨tR l,fc⟩,.int .i64 (fun _=>v),rv c] (av ⟨tR (xR v c.q false l),fc⟩):=by
 refine sF Tryz.f72 ?_;have cfc:=hc.fits (by decide);have cc:=s47 c (hc.mono (by decide));have hll:=hl.len;have hadd:∀ t,t∈l->zG 32 [rv (zJ t.2),rv c] (rv (zJ (t.2+c.q))):=fun t ht=>by have:=s44 (zJ t.2) c ((yF (hl.fit t ht)).mono (by decide)) (hc.mono (by decide));rw[yY] at this;exact this
 have hasz:∀ t,t∈l->Fits (2^36) (t.2+c.q):=fun t ht=>(gG (hl.fit t ht) cfc).mono (by decide);have htsz:∀ t,t∈l->Fits (2^36) t.2:=fun t ht=>(hl.fit t ht).mono (by decide);have hqsz:Fits (2^36) c.q:=cfc.mono (by decide);generalize hM:xR v c.q false l=M;generalize hcq:c.q=q at *
 clear hl hc hcq cfc;cbv;refine zX (σ:=List (Int×Rat)×Nat×Bool) (fun s=>⟨[(1,.int .i64 (fun _=>v)),(3,.ptr 3 0),(5,.ptr 5 0),(6,.ptr 6 0),(7,.osl 200 4 (fun _=>0) (fun _=>s.1.length)),(8,.bool (fun _=>s.2.2)),(9,.int .i64 (fun _=>(s.2.1:Int)))],
   [(3,.box [tsv (tR l),.bool (fun _=>fc.neg),nat fc.num,nat fc.den]),(5,.box [.bool (fun _=>c.neg),nat c.num,nat c.den]),(6,.box [.nil,.ff,.nil,.nil]),(200,.arr 4 (fun _=>enc tc (tR s.1)))]⟩)
  (fun s=>s.2.1<=l.length/\s.1.length<=2*s.2.1/\M=s.1++xR v q s.2.2 (l.drop s.2.1)) (fun s=>l.length-s.2.1)
  ([],0,false) ⟨om,by simp,hM.symm⟩
  (.trans (.le (ps':=⟨[(1,.int .i64 (fun _=>v)),(3,.ptr 3 0),(5,.ptr 5 0),(6,.ptr 6 0),(7,.nil),(8,.bool (fun _=>false)),(9,.int .i64 (fun _=>((0:Nat):Int)))],[(3,.box [tsv (tR l),.bool (fun _=>fc.neg),nat fc.num,nat fc.den]),(5,.box [.bool (fun _=>c.neg),nat c.num,nat c.den]),(6,.box [.nil,.ff,.nil,.nil])]⟩) ?_ ?_ rfl)
   (.trans (.adoptT (ps:=⟨[(1,.int .i64 (fun _=>v)),(3,.ptr 3 0),(5,.ptr 5 0),(6,.ptr 6 0),(7,.nil),(8,.bool (fun _=>false)),(9,.int .i64 (fun _=>((0:Nat):Int)))],[(3,.box [tsv (tR l),.bool (fun _=>fc.neg),nat fc.num,nat fc.den]),(5,.box [.bool (fun _=>c.neg),nat c.num,nat c.den]),(6,.box [.nil,.ff,.nil,.nil])]⟩) 200 4 7 rfl rfl) (.le ?_ ?_ rfl))) ?_
 {cbv;exact⟨lR,lR,lR,lR,lR,z5 rfl,zE rfl,trivial⟩};{cbv;exact okA};{cbv;exact⟨lR,lR,lR,lR,zU rfl rfl,lR,lR,trivial⟩};{cbv;exact⟨okA,okA,okA,zB rfl,trivial⟩};intro s hs;obtain⟨h1,hL,hI⟩:=hs;generalize s.1=out at *
 generalize s.2.1=i at *
 generalize s.2.2=d at *
 clear hM;cbv;refine zD (fun h5=>?_) (fun h5=>?_)
 ·cbv;refine pM (l:=tR l) i om (by simp only[zK,uZ] at h5 ⊢;(try dsimp only [zI] at *);omega) kG jE (fun t' ht'=>?_);obtain⟨t,ht,rfl⟩:∃ t,l[i]?=some t/\t'=(t.1,zJ t.2):=by
   unfold tR at ht';rw[vU] at ht';cases hx:l[i]? with
   |none=>rw[hx] at ht';cases ht'
   |some t=>rw[hx] at ht';exact⟨t,rfl,(vC ht').symm⟩
  (have hmem:=zZ ht;have hlt:i<l.length:=(v4.1 ht).1;rw[uX ht,show xR v q d (t::l.drop (i+1))=if t.1=v then pc t.1 (t.2+q) (xR v q true (l.drop (i+1))) else if d=false/\v<t.1 then pc v q (pc t.1 t.2 (xR v q true (l.drop (i+1)))) else pc t.1 t.2 (xR v q d (l.drop (i+1))) from rfl] at hI;have f1:t.1=v->M=pcr out t.1 (t.2+q)++xR v q true (l.drop (i+1)):=fun e=>by rw[hI,if_pos e,nD]);have f2:¬t.1=v->d=false->v<t.1->M=pcr (pcr out v q) t.1 t.2++xR v q true (l.drop (i+1)):=fun e e2 e3=>by rw[hI,if_neg e,if_pos ⟨e2,e3⟩,nD,nD]
  (have f3:¬t.1=v->¬(d=false/\v<t.1)->M=pcr out t.1 t.2++xR v q d (l.drop (i+1)):=fun e e2=>by rw[hI,if_neg e,if_neg e2,nD]);clear hI
  obtain⟨Y,hY⟩:∃ Y,zJ t.2=Y:=⟨_,rfl⟩;rw[hY];cbv;refine zD (fun e1=>?_) (fun e1=>?_)
  ·have hI':M=pcr out t.1 (t.2+q)++xR v q true (l.drop (i+1)):=f1 e1;have ca:=hadd t hmem;have cz:=sNz out t.1 (t.2+q) (hasz t hmem) oM;have hpl:=nC out t.1 (t.2+q);generalize pcr out t.1 (t.2+q)=out' at *
   generalize zJ (t.2+q)=X at *
   rw[hY] at ca;cbv;refine cA ca ?_;cbv;refine yU (fun _=>200) (Wk.sel _ [1,3,5,6,8,9,46,47] [3,5,6,200] rfl) rfl okA cz ⟨⟨rfl,rfl⟩,trivial⟩ rfl rfl rfl rfl rfl rfl rfl rfl ?_;cbv;refine⟨zC om om,(out',i+1,true),⟨om,om,hI'⟩,om,.le ?_ ?_ rfl⟩;{cbv;exact⟨lR,lR,lR,lR,lR,xQ rfl,zE om,trivial⟩};{cbv;exact⟨okA,okA,okA,zB rfl,trivial⟩}
  ·cbv;refine xK (fun e2=>?_) (fun e2=>?_)
   ·have hI':M=pcr out t.1 t.2++xR v q d (l.drop (i+1)):=f3 e1 (fun h=>absurd (e2.symm.trans h.1) (by decide));have cz:=sNz out t.1 t.2 (htsz t hmem) oM;have hpl:=nC out t.1 t.2;generalize pcr out t.1 t.2=out' at *
    rw[hY] at cz;cbv;refine yU (fun _=>200) (Wk.sel _ [1,3,5,6,8,9,46,47] [3,5,6,200] rfl) rfl okA cz ⟨⟨rfl,rfl⟩,trivial⟩ rfl rfl rfl rfl rfl rfl rfl rfl ?_;cbv;refine⟨zC om om,(out',i+1,d),⟨om,om,hI'⟩,om,.le ?_ ?_ rfl⟩;{cbv;exact⟨lR,lR,lR,lR,lR,lR,zE om,trivial⟩};{cbv;exact⟨okA,okA,okA,zB rfl,trivial⟩}
   ·cbv;refine zD (fun e3=>?_) (fun e3=>?_)
    ·have hI':M=pcr (pcr out v q) t.1 t.2++xR v q true (l.drop (i+1)):=f2 e1 e2 e3;have cz1:=sNz out v q hqsz oM;have hpl1:=nC out v q;have cz2:=sNz (pcr out v q) t.1 t.2 (htsz t hmem) oM;have hpl2:=nC (pcr out v q) t.1 t.2;generalize pcr (pcr out v q) t.1 t.2=out2 at *
     generalize pcr out v q=out1 at *
     rw[hY] at cz2;generalize zJ q=X at *
     cbv;refine cA cc ?_;cbv;refine yU (fun _=>200) (Wk.sel _ [1,3,5,6,9,10,40,44] [3,5,6,10,200] rfl) rfl okA cz1 ⟨⟨rfl,rfl⟩,trivial⟩ rfl rfl rfl rfl rfl rfl rfl rfl ?_;cbv;refine yU (fun _=>200) (Wk.sel _ [1,3,5,6,8,9,46,47] [3,5,6,200] rfl) rfl okA cz2 ⟨⟨rfl,rfl⟩,trivial⟩ rfl rfl rfl rfl rfl rfl rfl rfl ?_;cbv;refine⟨zC om om,(out2,i+1,true),⟨om,om,hI'⟩,om,.le ?_ ?_ rfl⟩;{cbv;exact⟨lR,lR,lR,lR,lR,xQ rfl,zE om,trivial⟩};{cbv;exact⟨okA,okA,okA,zB rfl,trivial⟩}
    ·have hI':M=pcr out t.1 t.2++xR v q d (l.drop (i+1)):=f3 e1 (fun h=>e3 h.2);have cz:=sNz out t.1 t.2 (htsz t hmem) oM;have hpl:=nC out t.1 t.2;generalize pcr out t.1 t.2=out' at *
     rw[hY] at cz;cbv;refine yU (fun _=>200) (Wk.sel _ [1,3,5,6,8,9,46,47] [3,5,6,200] rfl) rfl okA cz ⟨⟨rfl,rfl⟩,trivial⟩ rfl rfl rfl rfl rfl rfl rfl rfl ?_;cbv;refine⟨zC om om,(out',i+1,d),⟨om,om,hI'⟩,om,.le ?_ ?_ rfl⟩;{cbv;exact⟨lR,lR,lR,lR,lR,lR,zE om,trivial⟩};{cbv;exact⟨okA,okA,okA,zB rfl,trivial⟩}
 ·(have hi:i=l.length:=by simp only[zK,uZ] at h5;(try dsimp only [zI] at *);omega);rw[hi,vG] at hI
  cbv;refine z6 (fun e1=>?_) (fun e1=>?_)
  ·(have hM':M=out:=by rw[hI,e1];exact kC _);cbv
   subst hM';refine zK5 _ (.trans (.le (ps':=⟨[(6,.ptr 6 0)],[(6,.box [.osl 200 4 (fun _=>0) (fun _=>M.length),.bool (fun _=>fc.neg),nat fc.num,nat fc.den]),(200,.arr 4 (fun _=>enc tc (tR M)))]⟩) ?_ ?_ rfl) (.frz 200 rfl rfl ?_ ?_)) rfl ?_;{cbv;exact okA};{cbv;exact⟨okA,zB rfl,trivial⟩};{exact⟨trivial,trivial⟩};{cbv;exact⟨⟨yG (by simp[zK,uZ]),trivial⟩,trivial⟩};{cbv;exact⟨zY (yN (by simp[zK,uZ])),lR,lR,lR,trivial⟩}
  ·(have hM':M=pcr out v q:=by rw[hI,e1];show out++pc v q []=_;rw[<-nD,kC]);have cz1:=sNz out v q hqsz oM;rw[<-hM'] at cz1;generalize zJ q=X at *
   cbv;refine cA cc ?_;cbv;refine yU (fun _=>200) (Wk.sel _ [3,6,51,55] [3,6,200] rfl) rfl okA cz1 ⟨⟨rfl,rfl⟩,trivial⟩ rfl rfl rfl rfl rfl rfl rfl rfl ?_;cbv;refine zK5 _ (.trans (.le (ps':=⟨[(6,.ptr 6 0)],[(6,.box [.osl 200 4 (fun _=>0) (fun _=>M.length),.bool (fun _=>fc.neg),nat fc.num,nat fc.den]),(200,.arr 4 (fun _=>enc tc (tR M)))]⟩) ?_ ?_ rfl) (.frz 200 rfl rfl ?_ ?_)) rfl ?_;{cbv;exact okA};{cbv;exact⟨okA,zB rfl,trivial⟩};{exact⟨trivial,trivial⟩};{cbv;exact⟨⟨yG (by simp[zK,uZ]),trivial⟩,trivial⟩};{cbv;exact⟨zY (yN (by simp[zK,uZ])),lR,lR,lR,trivial⟩}
theorem aD (v:Int)(q:Rat):∀ {l:List (Int×Rat)},(∀ t,t∈l->t.1≠v)->Cn l->xR v q true l=l
 |[],_,_=>rfl| t::r,h,hc=>by have h1:=h t xD;have ih:=aD v q (fun u hu=>h u (xI _ hu)) hc.tail;rw[show xR v q true (t::r)=if t.1=v then pc t.1 (t.2+q) (xR v q true r) else if true=false/\v<t.1 then pc v q (pc t.1 t.2 (xR v q true r)) else pc t.1 t.2 (xR v q true r) from rfl];rw[if_neg h1,if_neg (by simp),ih];unfold pc;rw[if_neg hc.hd]
theorem zB5 (v:Int)(q:Rat)(t:Int×Rat)(r:List (Int×Rat)):xR v q false (t::r)=if t.1=v then pc t.1 (t.2+q) (xR v q true r) else if v<t.1 then pc v q (pc t.1 t.2 (xR v q true r)) else pc t.1 t.2 (xR v q false r):=by rw[show xR v q false (t::r)=if t.1=v then pc t.1 (t.2+q) (xR v q true r) else if false=false/\v<t.1 then pc v q (pc t.1 t.2 (xR v q true r)) else pc t.1 t.2 (xR v q false r) from rfl];simp only[true_and]
theorem nB {v:Int}{q:Rat}:∀ {d:Bool} {l:List (Int×Rat)} {u},u∈xR v q d l->u.1=v\/∃ t,t∈l/\t.1=u.1
 |true,[],u,h=>absurd h (by simp[xR])| false,[],u,h=>by rcases u7 (show u∈pc v q [] from h) with rfl|h;{exact .inl rfl};{exact absurd h (by simp)}
 |d,t::r,u,h=>by unfold xR at h;split at h;{rcases u7 h with rfl|h;{exact .inr ⟨t,xD,rfl⟩};{rcases nB h with h|⟨w,h1,h2⟩;{exact .inl h};{exact .inr ⟨w,xI _ h1,h2⟩}}};{split at h;{rcases u7 h with rfl|h;{exact .inl rfl};{rcases u7 h with rfl|h;{exact .inr ⟨t,xD,rfl⟩};{rcases nB h with h|⟨w,h1,h2⟩;{exact .inl h};{exact .inr ⟨w,xI _ h1,h2⟩}}}};{rcases u7 h with rfl|h;{exact .inr ⟨t,xD,rfl⟩};{rcases nB h with h|⟨w,h1,h2⟩;{exact .inl h};{exact .inr ⟨w,xI _ h1,h2⟩}}}}
theorem Cn.plus {v:Int}{q:Rat}:∀ {l:List (Int×Rat)},Cn l->Cn (xR v q false l)
 |[],_=>Cn.pc Cn.nil (fun u hu=>absurd hu (by simp))| t::r,h=>by rw[zB5];split;{rename_i e;rw[aD v q (fun u hu=>by have:=h.lt u hu;omega) h.tail];exact Cn.pc h.tail h.lt};{split;{rename_i e1 e2;rw[aD v q (fun u hu=>by have:=h.lt u hu;omega) h.tail];refine Cn.pc (Cn.pc h.tail h.lt) fun u hu=>?_;rcases u7 hu with rfl|hu;{exact e2};{exact Int.lt_trans e2 (h.lt u hu)}};{rename_i e1 e2;refine Cn.pc (Cn.plus h.tail) fun u hu=>?_;rcases nB hu with e|⟨w,g1,g2⟩;{rw[e];omega};{rw[<-g2];exact h.lt w g1}}}
theorem zOZ {v:Int}{q:Rat}(w:Int):∀ {l:List (Int×Rat)},Cn l->co (xR v q false l) w=co l w+if v=w then q else 0
 |[],_=>by show co (pc v q []) w=_;rw[lH];simp only[co];grind| t::r,h=>by rw[zB5];split;{rename_i e;rw[aD v q (fun u hu=>by have:=h.lt u hu;omega) h.tail,lH];simp only[co,e];split <;> grind};{split;{rw[aD v q (fun u hu=>by have:=h.lt u hu;omega) h.tail,lH,lH];simp only[co];grind};{rw[lH,zOZ w h.tail];simp only[co];grind}}
def plusAll (l g:List (Int×Rat)):List (Int×Rat):=g.foldl (fun a t=>xR t.1 t.2 false a) l
theorem Cn.plusAll:∀ {g l:List (Int×Rat)},Cn l->Cn (plusAll l g)
 |[],l,h=>h| t::g,l,h=>Cn.plusAll (g:=g) h.plus
theorem iE (w:Int):∀ {g l:List (Int×Rat)},Cn l->co (plusAll l g) w=co l w+co g w
 |[],l,h=>by show co l w=_;simp only[co];grind| t::g,l,h=>by show co (plusAll (xR t.1 t.2 false l) g) w=_;rw[iE w h.plus,zOZ w h];simp only[co];grind
theorem zH6 {l g:List (Int×Rat)}(hl:Cn l)(hg:Cn g):plusAll l g=mrg 1 l g :=
 Cn.ext hl.plusAll (hl.mrg hg) fun v=>by rw[iE v hl,cX];grind
theorem eF (l g:List (Int×Rat))(t:Int×Rat):plusAll l (g++[t])=xR t.1 t.2 false (plusAll l g):=by unfold plusAll;rw[zT1];rfl
theorem Cn.co_mem {l:List (Int×Rat)}(h:Cn l){t}(ht:t∈l):co l t.1=t.2:=by
 induction l with
 |nil=>exact absurd ht (by simp)| cons a r ih =>
  rcases z9.1 ht with rfl|ht;{exact jQ h};{have:=h.lt t ht;simp only[co,if_neg (show a.1≠t.1 by omega),ih h.tail ht];grind}
theorem zM8 {k:Nat}{l:List (Int×Rat)}(h:Cn l)(hf:∀ t,t∈l->Fits k t.2)(hk:1<=k)(v:Int):Fits k (co l v):=by by_cases hx:∃ t,t∈l/\t.1=v;{obtain⟨t,h1,rfl⟩:=hx;rw[h.co_mem h1];exact hf t h1};{rw[oL fun t ht e=>hx ⟨t,ht,e⟩];exact wD hk}
theorem Cn.take {l:List (Int×Rat)}(h:Cn l)(n:Nat):Cn (l.take n):=⟨h.s.sublist (List.take_sublist n l),fun t ht=>h.n t (zEU ht)⟩
theorem zAC (v:Int)(q:Rat):∀ (d:Bool) (l:List (Int×Rat)),(xR v q d l).length<=l.length+(if d=true then 0 else 1)
 |true,[]=>by simp[xR]| false,[]=>by have:=sL v q [];simpa[xR] using this| d,t::r=>by
  have h1:=zAC v q true r;have h2:=zAC v q d r;unfold xR;split
  ·have:=sL t.1 (t.2+q) (xR v q true r);simp only[x7,if_true] at *
   omega
  ·split
   ·rename_i e;have g1:=sL t.1 t.2 (xR v q true r);have g2:=sL v q (pc t.1 t.2 (xR v q true r));rw[e.1];simp only[x7,if_true] at *
    rw[if_neg (by decide)];omega
   ·have:=sL t.1 t.2 (xR v q d r);simp only[x7] at *
    omega
theorem sD:∀ (g l:List (Int×Rat)),(plusAll l g).length<=l.length+g.length
 |[],l=>by simp[plusAll]| t::g,l=>by
  have h1:=sD g (xR t.1 t.2 false l);have h2:=zAC t.1 t.2 false l;show (plusAll (xR t.1 t.2 false l) g).length<=_;simp only[x7] at *
  rw[if_neg (by decide)] at h2;omega
theorem zH7 {k m:Nat}{l g:List (Int×Rat)}(hl:Cn l)(hg:Cn g)(hfl:∀ t,t∈l->Fits k t.2)(hfg:∀ t,t∈g->Fits m t.2)(hk:1<=k)(hm:1<=m):∀ t,t∈plusAll l g->Fits (k+m+1) t.2:=fun t ht=>by rw[<-hl.plusAll.co_mem ht,iE _ hl];exact gG (zM8 hl hfl hk _) (zM8 hg hfg hm _)
theorem zYA (v:Int):zG 103 [.int .i64 (fun _=>v)] (fv (F.var v)):=by
 refine sF Tryz.f103 ?_;have c1:=s32 1 (by decide) (by decide);have e:fv (F.var v)=.agg [.sl (fun _=>[x6 [.int .i64 (fun _=>v),.bool (fun _=>(zJ ((1:Int):Rat)).neg),nat (zJ ((1:Int):Rat)).num,nat (zJ ((1:Int):Rat)).den]]),.bool (fun _=>R0.neg),nat R0.num,nat R0.den]:=by show av ⟨[(v,zJ 1)],zJ 0⟩=_;rw[zFT];rfl
 rw[e];clear e;generalize zJ ((1:Int):Rat)=o at *
 cbv;refine cA c1 ?_;cbv
 (refine rC ?_;cbv)
 exact⟨zY rfl,z5 rfl,xB rfl,xB rfl,trivial⟩
theorem zSW (l:List (Int×R)):(tq l).length=l.length:=by simp[tq]
theorem zGR (c:Rat)(b:Int×Rat)(bb):mrg c [] (b::bb)=pc b.1 (b.2*c) (mrg c [] bb):=by rw[mrg]
theorem zJF (f:A)(c:R)(hf:f.sz (2^31))(hc:c.sz (2^31)):zG 27 [av f,rv c] (fv (f.f.scale c.q)):=by
 refine sF Tryz.f27 ?_;have ccf:=hc.fits (by decide);have hst:=hf.t.sz;have hll:=hf.t.len;have cm:=s77 f.c c hf.c hc;have hmul:∀ b:Int×R,b∈f.ts->zG 28 [rv b.2,rv c] (rv (zJ (b.2.q*c.q))):=fun b hb=>s77 b.2 c (hst b hb) hc;have hmsz:∀ b:Int×R,b∈f.ts->Fits (2^36) (b.2.q*c.q):=fun b hb=>(uB ((hst b hb).fits (by decide)) ccf).mono (by decide);have e:fv (f.f.scale c.q)=.agg [tsv (tR (mrg c.q [] (tq f.ts))),.bool (fun _=>(zJ (f.c.q*c.q)).neg),nat (zJ (f.c.q*c.q)).num,nat (zJ (f.c.q*c.q)).den]:=by show av ⟨tR (mrg c.q [] (tq f.ts)),zJ (0+f.c.q*c.q)⟩=_;rw[Rat.zero_add]
 rw[e];clear e;generalize hM:mrg c.q [] (tq f.ts)=M;generalize zJ (f.c.q*c.q)=W at *
 generalize hcq:c.q=q at *
 clear hf hc hcq ccf;cbv;refine cA cm ?_;cbv;refine zX (σ:=List (Int×Rat)×Nat) (fun s=>⟨[(2,.ptr 2 0),(3,.ptr 3 0),(4,.ptr 4 0),(5,.ptr 5 0),(6,.int .i64 (fun _=>(s.2:Int)))],
   [(2,.box [tsv f.ts,.bool (fun _=>f.c.neg),nat f.c.num,nat f.c.den]),(3,.box [.bool (fun _=>c.neg),nat c.num,nat c.den]),(4,.box [.nil,.ff,.nil,.nil]),(5,.box [.osl 200 4 (fun _=>0) (fun _=>s.1.length),.bool (fun _=>W.neg),nat W.num,nat W.den]),(200,.arr 4 (fun _=>enc tc (tR s.1)))]⟩)
  (fun s=>s.2<=f.ts.length/\s.1.length<=s.2/\M=s.1++mrg q [] (tq (f.ts.drop s.2))) (fun s=>f.ts.length-s.2)
  ([],0) ⟨om,by simp,hM.symm⟩
  (.trans (.le (ps':=⟨[(2,.ptr 2 0),(3,.ptr 3 0),(4,.ptr 4 0),(5,.ptr 5 0),(6,.int .i64 (fun _=>((0:Nat):Int)))],[(2,.box [tsv f.ts,.bool (fun _=>f.c.neg),nat f.c.num,nat f.c.den]),(3,.box [.bool (fun _=>c.neg),nat c.num,nat c.den]),(4,.box [.nil,.ff,.nil,.nil]),(5,.box [.nil,.bool (fun _=>W.neg),nat W.num,nat W.den])]⟩) ?_ ?_ rfl)
   (.trans (.adoptB (ps:=⟨[(2,.ptr 2 0),(3,.ptr 3 0),(4,.ptr 4 0),(5,.ptr 5 0),(6,.int .i64 (fun _=>((0:Nat):Int)))],[(2,.box [tsv f.ts,.bool (fun _=>f.c.neg),nat f.c.num,nat f.c.den]),(3,.box [.bool (fun _=>c.neg),nat c.num,nat c.den]),(4,.box [.nil,.ff,.nil,.nil]),(5,.box [.nil,.bool (fun _=>W.neg),nat W.num,nat W.den])]⟩) (cs:=[.nil,.bool (fun _=>W.neg),nat W.num,nat W.den]) 200 4 5 0 rfl rfl rfl) (.le ?_ ?_ rfl))) ?_
 {cbv;exact⟨lR,lR,lR,lR,zE rfl,trivial⟩};{cbv;exact okA};{cbv;exact okA};{cbv;exact⟨okA,okA,okA,⟨zU rfl rfl,lR,lR,lR,trivial⟩,zB rfl,trivial⟩};clear hM;intro s hs;obtain⟨h1,hL,hI⟩:=hs;generalize s.1=out at *
 generalize s.2=i at *
 cbv;refine zD (fun h5=>?_) (fun h5=>?_)
 ·(rw[zK] at h5;have hlt:i<f.ts.length:=by (try dsimp only [zI] at *);omega);obtain⟨t,ht⟩:=kT hlt
  (have hmem:=zZ ht;rw[uX ht,zUW,zGR] at hI;have hI':M=pcr out t.1 (t.2.q*q)++mrg q [] (tq (f.ts.drop (i+1))):=by rw[hI,nD]);clear hI
  have ca:=hmul t hmem;have cz:=sNz out t.1 (t.2.q*q) (hmsz t hmem) oM;have hpl:=nC out t.1 (t.2.q*q);generalize pcr out t.1 (t.2.q*q)=out' at *
  generalize zJ (t.2.q*q)=X at *
  have idx:∀ {K:List PV->Prop},K (tc t)->IdxOk 4 (fun _=>enc tc f.ts) (fun _=>(i:Int)) K:=fun hK=>pM (l:=f.ts) i rfl hlt kG jE (fun m' hm'=>by rw[ht] at hm';cases hm';exact hK);cbv;refine zT 17 (by cbv) ?_;cbv;refine idx ?_;cbv;refine idx ?_;cbv;refine dA ca ?_;cbv;refine yU (fun _=>200) (Wk.sel _ [2,3,4,5,6,20,35] [2,3,4,5,200] rfl) rfl okA cz ⟨⟨rfl,rfl⟩,trivial⟩ rfl rfl rfl rfl rfl rfl rfl rfl ?_;cbv;refine⟨zC om om,(out',i+1),⟨om,om,hI'⟩,om,.le ?_ ?_ rfl⟩;{cbv;exact⟨lR,lR,lR,lR,zE om,trivial⟩};{cbv;exact⟨okA,okA,okA,okA,zB rfl,trivial⟩}
 ·(have hi:i=f.ts.length:=by rw[zK] at h5;(try dsimp only [zI] at *);omega);rw[hi,vG] at hI
  (have hM':M=out:=by rw[hI,show tq []=[] from rfl,mrg,kC]);clear hI
  cbv;subst hM';refine zK5 _ (.trans (.le (ps':=⟨[(4,.ptr 4 0)],[(4,.box [.osl 200 4 (fun _=>0) (fun _=>M.length),.bool (fun _=>W.neg),nat W.num,nat W.den]),(200,.arr 4 (fun _=>enc tc (tR M)))]⟩) ?_ ?_ rfl) (.frz 200 rfl rfl ?_ ?_)) rfl ?_;{cbv;exact okA};{cbv;exact⟨okA,zB rfl,trivial⟩};{exact⟨trivial,trivial⟩};{cbv;exact⟨⟨yG (by simp[zK,uZ]),trivial⟩,trivial⟩};{cbv;exact⟨zY (yN (by simp[zK,uZ])),lR,lR,lR,trivial⟩}
theorem zS7 (l:List (Int×Rat))(fc:R)(g:A)(hl:Cn l)(hg:Cn (tq g.ts))(hfl:Tfit (2^28) l)(hfc:fc.sz (2^31))(hgs:g.sz (2^28))(hlen:l.length+g.ts.length<2^37):zG 29 [av ⟨tR l,fc⟩,av g] (fv (F.add ⟨l,fc.q⟩ g.f)):=by
 refine sF Tryz.f29 ?_;have ca:=s44 fc g.c hfc (hgs.c.mono (by decide));have hgz:=hgs.t.sz;have e:fv (F.add ⟨l,fc.q⟩ g.f)=.agg [tsv (tR (plusAll l (tq g.ts))),.bool (fun _=>(zJ (fc.q+g.c.q)).neg),nat (zJ (fc.q+g.c.q)).num,nat (zJ (fc.q+g.c.q)).den]:=by show av ⟨tR (mrg 1 l (tq g.ts)),zJ (fc.q+g.c.q*1)⟩=_;rw[Rat.mul_one,zH6 hl hg]
 rw[e];clear e;have hfit:∀ i,Tfit (2^30) (plusAll l (tq (g.ts.take i))):=fun i=>by
  (have hg':Cn (tq (g.ts.take i)):=by have:=hg.take i;unfold tq at this ⊢;rw[List.map_take];exact this);refine⟨?_,fun t ht=>(zH7 (m:=2^28) hl hg' hfl.fit (fun t ht=>?_) (by decide) (by decide) t ht).mono (by decide)⟩
  {have:=sD (tq (g.ts.take i)) l;rw[zSW,y4] at this;omega};{unfold tq at ht;obtain⟨u,hu,rfl⟩:=yS.1 ht;exact ((hgz u (zEU hu)).fits (by decide):Fits (2^28) _)}
 have hlenP:∀ i,(plusAll l (tq (g.ts.take i))).length<2^38:=fun i=>(hfit i).len;have hplus:∀ (i:Nat) (t:Int×R),g.ts[i]?=some t->zG 72 [av ⟨tR (plusAll l (tq (g.ts.take i))),zJ (fc.q+g.c.q)⟩,.int .i64 (fun _=>t.1),rv t.2] (av ⟨tR (plusAll l (tq (g.ts.take (i+1)))),zJ (fc.q+g.c.q)⟩):=fun i t ht=>by
  have:=zWW (plusAll l (tq (g.ts.take i))) (zJ (fc.q+g.c.q)) t.1 t.2 (hfit i) ((hgz t (zZ ht)).mono (by decide));have e:xR t.1 t.2.q false (plusAll l (tq (g.ts.take i)))=plusAll l (tq (g.ts.take (i+1))):=by
   (have:tq (g.ts.take (i+1))=tq (g.ts.take i)++[(t.1,t.2.q)]:=by unfold tq;rw[rA,ht,gL];rfl);rw[this,eF]
  rw[e] at this;exact this
 generalize zJ (fc.q+g.c.q)=W at *
 obtain⟨P,hP⟩:∃ P:Nat->List (Int×Rat),∀ i,P i=plusAll l (tq (g.ts.take i)):=⟨_,fun _=>rfl⟩;have hplus':∀ (i:Nat) (t:Int×R),g.ts[i]?=some t->zG 72 [av ⟨tR (P i),W⟩,.int .i64 (fun _=>t.1),rv t.2] (av ⟨tR (P (i+1)),W⟩):=fun i t ht=>by rw[hP,hP];exact hplus i t ht
 have hP0:P 0=l:=hP 0;have hPe:plusAll l (tq g.ts)=P g.ts.length:=by rw[hP,s6]
 rw[hPe];have hlP:(P g.ts.length).length<2^38:=by rw[hP];exact hlenP _
 have hgl:=hgs.t.len;clear hplus hPe hfit hP hlenP hgs hfc hfl hgz hg hl;cbv;refine oG 9 (by cbv) (by cbv) ?_;cbv;refine dA ca ?_;cbv;refine zX (σ:=Nat) (fun i=>⟨[(3,.ptr 3 0),(4,.ptr 4 0),(5,.ptr 5 0),(6,.int .i64 (fun _=>(i:Int)))],
   [(3,.box [tsv g.ts,.bool (fun _=>g.c.neg),nat g.c.num,nat g.c.den]),(4,.box [.nil,.ff,.nil,.nil]),(5,.box [tsv (tR (P i)),.bool (fun _=>W.neg),nat W.num,nat W.den])]⟩)
  (fun i=>i<=g.ts.length) (fun i=>g.ts.length-i) 0 oM (.le ?_ ?_ rfl) ?_
 {cbv;exact okA};{cbv;exact⟨okA,okA,⟨zY (by rw[hP0]),lR,lR,lR,trivial⟩,trivial⟩};clear hP0;intro i h1;cbv;refine zD (fun h5=>?_) (fun h5=>?_)
 ·(rw[zK] at h5;have hlt:i<g.ts.length:=by (try dsimp only [zI] at *);omega);obtain⟨t,ht⟩:=kT hlt
  have cp:=hplus' i t ht;have idx:∀ {K:List PV->Prop},K (tc t)->IdxOk 4 (fun _=>enc tc g.ts) (fun _=>(i:Int)) K:=fun hK=>pM (l:=g.ts) i rfl hlt kG jE (fun m' hm'=>by rw[ht] at hm';cases hm';exact hK);generalize P i=p0 at *
  generalize hp1:P (i+1)=p1 at *
  cbv;refine zT 14 (by cbv) ?_;cbv;refine idx ?_;cbv;refine idx ?_;cbv;refine dA cp ?_;cbv;refine⟨zC om om,i+1,om,om,.le ?_ ?_ rfl⟩;{cbv;exact⟨lR,lR,lR,zE om,trivial⟩};{cbv;exact⟨okA,okA,⟨zY (by rw[hp1]),lR,lR,lR,trivial⟩,trivial⟩}
 ·(have hi:i=g.ts.length:=by rw[zK] at h5;(try dsimp only [zI] at *);omega);subst hi
  clear hplus';generalize P g.ts.length=M at *
  cbv;refine zT 7 (by cbv) ?_;cbv;refine⟨pO jE _,yB (by simp only[zK,uZ];(try dsimp only [zI] at *);omega) (by simp only[zK,uZ];(try dsimp only [zI] at *);omega),?_⟩;cbv
  (refine rC ?_;cbv)
  exact okA
theorem Cn.scale {l:List (Int×Rat)}(h:Cn l)(c:Rat):Cn (Go.Proofs.YtfainocfaddbdaaGreat.mrg c [] l):=Cn.mrg Cn.nil h
theorem zUY {f g:F}(hf:Cn f.ts)(hg:Cn g.ts):f.sub g=f.add (g.scale (-1)):=by refine F.ext' ?_ ?_;{refine Cn.ext (hf.mrg hg) (hf.mrg (hg.scale (-1))) fun v=>?_;show co (mrg (-1) f.ts g.ts) v=co (mrg 1 f.ts (mrg (-1) [] g.ts)) v;rw[cX,cX,cX];simp only[co];grind};{show f.c+g.c * -1=f.c+(0+g.c * -1)*1;grind}
theorem zYB (l:List (Int×Rat))(fc:R)(g:A)(hl:Cn l)(hg:Cn (tq g.ts))(hfl:Tfit (2^28) l)(hfc:fc.sz (2^31))(hgs:g.sz (2^26))(hlen:l.length+g.ts.length<2^37):zG 33 [av ⟨tR l,fc⟩,av g] (fv (F.sub ⟨l,fc.q⟩ g.f)):=by
 refine sF Tryz.f33 ?_;have c1:=s32 (-1) (by decide) (by decide);have c2:=zJF g (zJ ((-1:Int):Rat)) (hgs.mono (by decide)) ((zVJ (-1) (by decide) (by decide)).mono (by decide));rw[yY,show g.f.scale ((-1:Int):Rat)=g.f.scale (-1) from rfl] at c2;have fs:(g.f.scale (-1)).fit (2^28):=(zPL (hgs.fit (by decide)) zGF (by decide)).mono (by decide);have ls:=zPK g.f (-1);have lg:g.f.ts.length=g.ts.length:=zSW _;have e1:tq (fA (g.f.scale (-1))).ts=(g.f.scale (-1)).ts:=zMB _;have c3:=zS7 l fc (fA (g.f.scale (-1))) hl (by rw[e1];exact hg.scale (-1)) hfl hfc fs.fA (by show l.length+(tR (g.f.scale (-1)).ts).length<_;rw[uZ];omega);rw[f_fA,<-zUY (f:=⟨l,fc.q⟩) hl hg] at c3;dsimp only [fv] at c2 c3 ⊢;generalize fA (F.sub ⟨l,fc.q⟩ g.f)=W at *
 generalize fA (g.f.scale (-1))=V at *
 generalize zJ ((-1:Int):Rat)=o at *
 cbv;refine zT 5 (by cbv) ?_;cbv;refine dA c1 ?_;cbv;refine dA c2 ?_;cbv;refine dA c3 ?_;cbv
 (refine rC ?_;cbv)
 exact okA
end Go.Proofs.YtfainocfaddbdaaGreat
