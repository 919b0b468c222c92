/- A part of the proof: UtA, RvA, RvB, DvA, RwC, RgA, RgB. -/
import Derived.Test.YtfainocfaddbdaaGreatT24
set_option linter.all false
namespace Go.Proofs.YtfainocfaddbdaaGreat
open Go
set_option maxRecDepth 100000
set_option maxHeartbeats 2000000
theorem dD {α:Type}{p:α->List PV}{n:Nat}{l:List α}{i:Nat}{a:α}{K:List PV->Prop}(h:l[i]?=some a)(hf:∀ a,yN kQ (p a)=true)(hn:∀ a,(p a).length=n)(hK:K (p a)):IdxOk n (fun _=>enc p l) (fun _=>(i:Int)) K :=
 pO (l:=l) i rfl (List.getElem?_eq_some_iff.1 h).1 hf hn (fun a' ha'=>by rw[h] at ha';cases ha';exact hK)
theorem zLI {α:Type}{p:α->List PV}{n:Nat}{l:List α}{i:Nat}{k:Int}{a:α}{K:List PV->Prop}(h:l[i]?=some a)(hk:k=(i:Int))(hf:∀ a,yN kQ (p a)=true)(hn:∀ a,(p a).length=n)(hK:K (p a)):IdxOk n (fun _=>enc p l) (fun _=>k) K :=
 pO (l:=l) i hk (List.getElem?_eq_some_iff.1 h).1 hf hn (fun a' ha'=>by rw[h] at ha';cases ha';exact hK)
theorem i4 {α:Type}{p:α->List PV}{l:List α}{i:Nat}(h:(i:Int)<((enc p l).length:Int)):i<l.length:=by rw[zO] at h;omega
theorem i5 {α:Type}{p:α->List PV}{l:List α}{i:Nat}(h:¬(i:Int)<((enc p l).length:Int))(h2:i<=l.length):i=l.length:=by rw[zO] at h;omega
theorem sR7V (a:A)(vars:Int)(ha:a.sz (2^32)):zM 66 [av a,.int .i64 (fun _=>vars)] (.bool (fun _=>a.valid vars)):=by
 refine sF Tryz.f66 ?_;obtain⟨ts,c⟩:=a;have hl:=ha.t.len;have hts:=ha.t.sz;have cc:=s129 c ha.c;generalize hr:A.valid vars ⟨ts,c⟩=r;have hr0:r=(vT vars (-1) ts&&c.ok):=hr.symm;simp only at hl hts cc;generalize c.ok=co at *
 clear hr ha;cbv;refine yB (σ:=Nat×Int) (fun s=>⟨[(1,.int .i64 (fun _=>vars)),(2,.ptr 2 0),(5,.int .i64 (fun _=>(s.1:Int)))],[(2,.box [tsv ts,.bool (fun _=>c.neg),nat c.num,nat c.den])]⟩)
  (fun s=>s.1<=ts.length/\r=(vT vars s.2 (ts.drop s.1)&&co)/\(s.1=0->s.2=-1)/\(s.1≠0->∃ u,ts[s.1-1]?=some u/\u.1=s.2)) (fun s=>ts.length-s.1)
  (0,-1) ⟨om,hr0,fun _=>rfl,fun h=>absurd rfl h⟩ (wkZ) ?_
 intro s hs;obtain⟨h1,hv,h3,h4⟩:=hs;generalize s.1=i at *
 generalize s.2=p at *
 cbv;refine zF (fun h5=>?_) (fun h5=>?_)
 ·(obtain⟨t,ht⟩:=dY (i4 h5);rw[vW ht,nD] at hv;have htz:=hts t (List.mem_of_getElem? ht);have cs:=s35 t.2 (by have:=htz.n;omega);have cv:=s129 t.2 htz;have hq:decide (t.2.q≠0)=decide (xJ t.2.q≠0):=by rw[decide_eq_decide];exact sgnQ_ne.symm);rw[hq] at hv
  generalize xJ t.2.q=sg at *
  generalize hok:t.2.ok=ok at *
  (generalize hrest:(vT vars t.1 (ts.drop (i+1))&&co)=rest;have hv':r=(decide (0<=t.1)&&decide (t.1<vars)&&decide (p<t.1)&&decide (sg≠0)&&ok&&rest):=by rw[hv,<-hrest];simp only[Bool.and_assoc]);have hi0:i<2^38:=by have:=(List.getElem?_eq_some_iff.1 ht).1;omega
  clear hv;cbv;refine dD ht jL gP ?_;cbv;refine zZ 37 (by cbv) ?_;cbv;refine yG (fun e1=>?_) (fun e1=>?_)
  ·cbv
   (refine rC ?_;cbv)
   exact zL (by rw[hv',decide_eq_false (by omega)];rfl)
  cbv;refine yG (fun e2=>?_) (fun e2=>?_)
  ·cbv
   (refine rC ?_;cbv)
   exact zL (by rw[hv',decide_eq_false (p:=t.1<vars) (by omega)];simp)
  (cbv;have fin:(¬(p<t.1)->r=false):=fun h=>by rw[hv',decide_eq_false (p:=p<t.1) h];simp);have hmain:(p<t.1)->r=(decide (sg≠0)&&ok&&rest):=fun h=>by rw[hv',decide_eq_true (p:=p<t.1) h,decide_eq_true (p:=0<=t.1) (by omega),decide_eq_true (p:=t.1<vars) (by omega)];simp only[Bool.true_and]
  clear hv';have tail:r=(decide (sg≠0)&&ok&&rest)->True:=fun _=>trivial;refine yG (fun e3=>?_) (fun e3=>?_)
  ·obtain⟨u,hu,hu2⟩:=h4 om;cbv;refine⟨zE om om,zLI hu om jL gP ?_⟩;cbv;refine yG (fun e4=>?_) (fun e4=>?_)
   ·cbv
    (refine rC ?_;cbv)
    exact zL (fin (by omega))
   have hm:=hmain (by omega);cbv;refine dA cs ?_;cbv;refine yG (fun e5=>?_) (fun e5=>?_)
   ·cbv
    (refine rC ?_;cbv)
    exact zL (by rw[hm,decide_eq_false (by simpa using e5)];rfl)
   rw[decide_eq_true e5,Bool.true_and] at hm;cbv;refine dA cv ?_;cbv;refine z9 (fun e6=>?_) (fun e6=>?_);{rw[e6,Bool.true_and] at hm;cbv;exact⟨zE om om,(i+1,t.1),⟨by have:=(List.getElem?_eq_some_iff.1 ht).1;omega,by rw[hm,hrest],fun h=>absurd h (by simp),fun _=>⟨_,ht,rfl⟩⟩,by have:=(List.getElem?_eq_some_iff.1 ht).1;omega,wkZ⟩}
   ·cbv
    (refine rC ?_;cbv)
    exact zL (by rw[hm,e6];rfl)
  ·have hp:=h3 om;have hm:=hmain (by omega);cbv;refine dA cs ?_;cbv;refine yG (fun e5=>?_) (fun e5=>?_)
   ·cbv
    (refine rC ?_;cbv)
    exact zL (by rw[hm,decide_eq_false (by simpa using e5)];rfl)
   rw[decide_eq_true e5,Bool.true_and] at hm;cbv;refine dA cv ?_;cbv;refine z9 (fun e6=>?_) (fun e6=>?_);{rw[e6,Bool.true_and] at hm;cbv;exact⟨zE om om,(i+1,t.1),⟨by have:=(List.getElem?_eq_some_iff.1 ht).1;omega,by rw[hm,hrest],fun h=>absurd h (by simp),fun _=>⟨_,ht,rfl⟩⟩,by have:=(List.getElem?_eq_some_iff.1 ht).1;omega,wkZ⟩}
   ·cbv
    (refine rC ?_;cbv)
    exact zL (by rw[hm,e6];rfl)
 ·(have he:=i5 h5 h1;rw[he,List.drop_length] at hv;have hv':r=co:=by rw[hv];rfl);cbv
  refine cA cc ?_;cbv
  (refine rC ?_;cbv)
  exact zI hv'.symm


theorem fits_one:Fits 1 1:=iT (z:=1) (by decide) (by decide)
abbrev tvq (v:Int) (x:R):PV:=.agg [.int .i64 (fun _=>v),.bool (fun _=>x.neg),nat x.num,nat x.den]
theorem sNz (l:List (Int×Rat))(v:Int)(q:Rat)(hq:Fits (2^36) q)(hl:l.length<2^39):Sound 68 [.osl 100 4 (fun _=>0) (fun _=>l.length),tvq v (zS q)] [] [(100,.arr 4 (fun _=>enc tc (tR l)))] (.osl 100 4 (fun _=>0) (fun _=>(pcr l v q).length)) [] [(100,.arr 4 (fun _=>enc tc (tR (pcr l v q))))]:=by
 refine sF Tryz.f68 ?_;have cs:=s35 (zS q) (by have:=(yZ hq).n;omega);rw[xF] at cs;have h1:xJ q≠0->pcr l v q=l++[(v,q)]:=fun h=>if_neg (sgnQ_ne.1 h);have h2:xJ q=0->pcr l v q=l:=fun h=>if_pos (by have:=fun g=>sgnQ_ne.2 g h;simpa using this);have hR:tR [(v,q)]=[(v,zS q)]:=rfl;generalize pcr l v q=P at *
 generalize xJ q=sg at *
 generalize zS q=W at *
 clear hq;cbv;refine cA cs ?_;cbv;refine zF (fun h=>?_) (fun h=>?_);{have hP:=h2 h;cbv;subst hP;exact zKA 100 (.refl _) rfl rfl rfl (by cbv;exact lR)};{have hP:=h1 h;cbv;subst hP;refine wO zE9 rfl rfl rfl (by simp only[zO,j1]) rfl ⟨by simp[yV,xM]⟩ (yJ (by simp only[zO,j1,yV,List.length_cons,List.length_nil];omega) (by simp only[zO,j1,yV,List.length_cons,List.length_nil];omega)) rfl ?_;cbv;refine zKA (ps':=⟨[(4,.osl 13 4 (fun _=>0) (fun _=>(l++[(v,q)]).length))],[(13,.arr 4 (fun _=>enc tc (tR (l++[(v,q)]))))]⟩) 13 (.le ?_ ?_ rfl) rfl rfl rfl ?_;{cbv;exact⟨z5 rfl (by simp[zO,j1,yV]),trivial⟩};{cbv;exact⟨zA (by rw[zM7,hR,<-jP];rfl),trivial⟩};{cbv;exact lR}}
def wE (v:Int) (q:Rat):Bool->List (Int×Rat)->List (Int×Rat)
 |d,[]=>if d=true then [] else pc v q []| d,t::r=>if t.1=v then pc t.1 (t.2+q) (wE v q true r) else if d=false/\v<t.1 then pc v q (pc t.1 t.2 (wE v q true r)) else pc t.1 t.2 (wE v q d r)
theorem zOX (l:List (Int×Rat))(fc:R)(v:Int)(c:R)(hl:Tfit (2^30) l)(hc:c.sz (2^30)):zM 72 [av ⟨tR l,fc⟩,.int .i64 (fun _=>v),rv c] (av ⟨tR (wE v c.q false l),fc⟩):=by
 refine sF Tryz.f72 ?_;have cfc:=hc.fits (by decide);have cc:=s47 c (hc.mono (by decide));have hll:=hl.len;have hadd:∀ t,t∈l->zM 32 [rv (zS t.2),rv c] (rv (zS (t.2+c.q))):=fun t ht=>by have:=s44 (zS t.2) c ((yZ (hl.fit t ht)).mono (by decide)) (hc.mono (by decide));rw[xF] at this;exact this
 have hasz:∀ t,t∈l->Fits (2^36) (t.2+c.q):=fun t ht=>(pU (hl.fit t ht) cfc).mono (by decide);have htsz:∀ t,t∈l->Fits (2^36) t.2:=fun t ht=>(hl.fit t ht).mono (by decide);have hqsz:Fits (2^36) c.q:=cfc.mono (by decide);generalize hM:wE v c.q false l=M;generalize hcq:c.q=q at *
 clear hl hc hcq cfc;cbv;refine yB (σ:=List (Int×Rat)×Nat×Bool) (fun s=>⟨[(1,.int .i64 (fun _=>v)),(3,.ptr 3 0),(5,.ptr 5 0),(6,.ptr 6 0),(7,.osl 200 4 (fun _=>0) (fun _=>s.1.length)),(8,.bool (fun _=>s.2.2)),(9,.int .i64 (fun _=>(s.2.1:Int)))],
   [(3,.box [tsv (tR l),.bool (fun _=>fc.neg),nat fc.num,nat fc.den]),(5,.box [.bool (fun _=>c.neg),nat c.num,nat c.den]),(6,.box [.nil,.ff,.nil,.nil]),(200,.arr 4 (fun _=>enc tc (tR s.1)))]⟩)
  (fun s=>s.2.1<=l.length/\s.1.length<=2*s.2.1/\M=s.1++wE v q s.2.2 (l.drop s.2.1)) (fun s=>l.length-s.2.1)
  ([],0,false) ⟨om,by simp,hM.symm⟩
  (.trans (.le (ps':=⟨[(1,.int .i64 (fun _=>v)),(3,.ptr 3 0),(5,.ptr 5 0),(6,.ptr 6 0),(7,.nil),(8,.bool (fun _=>false)),(9,.int .i64 (fun _=>((0:Nat):Int)))],[(3,.box [tsv (tR l),.bool (fun _=>fc.neg),nat fc.num,nat fc.den]),(5,.box [.bool (fun _=>c.neg),nat c.num,nat c.den]),(6,.box [.nil,.ff,.nil,.nil])]⟩) ?_ ?_ rfl)
   (.trans (.adoptT (ps:=⟨[(1,.int .i64 (fun _=>v)),(3,.ptr 3 0),(5,.ptr 5 0),(6,.ptr 6 0),(7,.nil),(8,.bool (fun _=>false)),(9,.int .i64 (fun _=>((0:Nat):Int)))],[(3,.box [tsv (tR l),.bool (fun _=>fc.neg),nat fc.num,nat fc.den]),(5,.box [.bool (fun _=>c.neg),nat c.num,nat c.den]),(6,.box [.nil,.ff,.nil,.nil])]⟩) 200 4 7 rfl rfl) (.le ?_ ?_ rfl))) ?_
 {cbv;exact⟨lR,lR,lR,lR,lR,zL rfl,zC rfl,trivial⟩};{cbv;exact okA};{cbv;exact⟨lR,lR,lR,lR,z5 rfl rfl,lR,lR,trivial⟩};{cbv;exact⟨okA,okA,okA,zA rfl,trivial⟩};intro s hs;obtain⟨h1,hL,hI⟩:=hs;generalize s.1=out at *
 generalize s.2.1=i at *
 generalize s.2.2=d at *
 clear hM;cbv;refine zF (fun h5=>?_) (fun h5=>?_)
 ·cbv;refine pO (l:=tR l) i om (by simp only[zO,j1] at h5 ⊢;(try dsimp only [zJ] at *);omega) jL gP (fun t' ht'=>?_);obtain⟨t,ht,rfl⟩:∃ t,l[i]?=some t/\t'=(t.1,zS t.2):=by
   unfold tR at ht';rw[List.getElem?_map] at ht';cases hx:l[i]? with
   |none=>rw[hx] at ht';cases ht'
   |some t=>rw[hx] at ht';exact⟨t,rfl,(Option.some.inj ht').symm⟩
  (have hmem:=List.mem_of_getElem? ht;have hlt:i<l.length:=(List.getElem?_eq_some_iff.1 ht).1;rw[vW ht,show wE v q d (t::l.drop (i+1))=if t.1=v then pc t.1 (t.2+q) (wE v q true (l.drop (i+1))) else if d=false/\v<t.1 then pc v q (pc t.1 t.2 (wE v q true (l.drop (i+1)))) else pc t.1 t.2 (wE v q d (l.drop (i+1))) from rfl] at hI;have f1:t.1=v->M=pcr out t.1 (t.2+q)++wE v q true (l.drop (i+1)):=fun e=>by rw[hI,if_pos e,r7]);have f2:¬t.1=v->d=false->v<t.1->M=pcr (pcr out v q) t.1 t.2++wE v q true (l.drop (i+1)):=fun e e2 e3=>by rw[hI,if_neg e,if_pos ⟨e2,e3⟩,r7,r7]
  (have f3:¬t.1=v->¬(d=false/\v<t.1)->M=pcr out t.1 t.2++wE v q d (l.drop (i+1)):=fun e e2=>by rw[hI,if_neg e,if_neg e2,r7]);clear hI
  obtain⟨Y,hY⟩:∃ Y,zS t.2=Y:=⟨_,rfl⟩;rw[hY];cbv;refine zF (fun e1=>?_) (fun e1=>?_)
  ·have hI':M=pcr out t.1 (t.2+q)++wE v q true (l.drop (i+1)):=f1 e1;have ca:=hadd t hmem;have cz:=sNz out t.1 (t.2+q) (hasz t hmem) (by omega);have hpl:=r6 out t.1 (t.2+q);generalize pcr out t.1 (t.2+q)=out' at *
   generalize zS (t.2+q)=X at *
   rw[hY] at ca;cbv;refine cA ca ?_;cbv;refine yP (fun _=>200) (Wk.sel _ [1,3,5,6,8,9,46,47] [3,5,6,200] rfl) rfl okA cz ⟨⟨rfl,rfl⟩,trivial⟩ rfl rfl rfl rfl rfl rfl rfl rfl ?_;cbv;refine⟨zE om om,(out',i+1,true),⟨om,om,hI'⟩,om,.le ?_ ?_ rfl⟩;{cbv;exact⟨lR,lR,lR,lR,lR,zU rfl,zC om,trivial⟩};{cbv;exact⟨okA,okA,okA,zA rfl,trivial⟩}
  ·cbv;refine vA (fun e2=>?_) (fun e2=>?_)
   ·have hI':M=pcr out t.1 t.2++wE v q d (l.drop (i+1)):=f3 e1 (fun h=>absurd (e2.symm.trans h.1) (by decide));have cz:=sNz out t.1 t.2 (htsz t hmem) (by omega);have hpl:=r6 out t.1 t.2;generalize pcr out t.1 t.2=out' at *
    rw[hY] at cz;cbv;refine yP (fun _=>200) (Wk.sel _ [1,3,5,6,8,9,46,47] [3,5,6,200] rfl) rfl okA cz ⟨⟨rfl,rfl⟩,trivial⟩ rfl rfl rfl rfl rfl rfl rfl rfl ?_;cbv;refine⟨zE om om,(out',i+1,d),⟨om,om,hI'⟩,om,.le ?_ ?_ rfl⟩;{cbv;exact⟨lR,lR,lR,lR,lR,lR,zC om,trivial⟩};{cbv;exact⟨okA,okA,okA,zA rfl,trivial⟩}
   ·cbv;refine zF (fun e3=>?_) (fun e3=>?_)
    ·have hI':M=pcr (pcr out v q) t.1 t.2++wE v q true (l.drop (i+1)):=f2 e1 e2 e3;have cz1:=sNz out v q hqsz (by omega);have hpl1:=r6 out v q;have cz2:=sNz (pcr out v q) t.1 t.2 (htsz t hmem) (by omega);have hpl2:=r6 (pcr out v q) t.1 t.2;generalize pcr (pcr out v q) t.1 t.2=out2 at *
     generalize pcr out v q=out1 at *
     rw[hY] at cz2;generalize zS q=X at *
     cbv;refine cA cc ?_;cbv;refine yP (fun _=>200) (Wk.sel _ [1,3,5,6,9,10,40,44] [3,5,6,10,200] rfl) rfl okA cz1 ⟨⟨rfl,rfl⟩,trivial⟩ rfl rfl rfl rfl rfl rfl rfl rfl ?_;cbv;refine yP (fun _=>200) (Wk.sel _ [1,3,5,6,8,9,46,47] [3,5,6,200] rfl) rfl okA cz2 ⟨⟨rfl,rfl⟩,trivial⟩ rfl rfl rfl rfl rfl rfl rfl rfl ?_;cbv;refine⟨zE om om,(out2,i+1,true),⟨om,om,hI'⟩,om,.le ?_ ?_ rfl⟩;{cbv;exact⟨lR,lR,lR,lR,lR,zU rfl,zC om,trivial⟩};{cbv;exact⟨okA,okA,okA,zA rfl,trivial⟩}
    ·have hI':M=pcr out t.1 t.2++wE v q d (l.drop (i+1)):=f3 e1 (fun h=>e3 h.2);have cz:=sNz out t.1 t.2 (htsz t hmem) (by omega);have hpl:=r6 out t.1 t.2;generalize pcr out t.1 t.2=out' at *
     rw[hY] at cz;cbv;refine yP (fun _=>200) (Wk.sel _ [1,3,5,6,8,9,46,47] [3,5,6,200] rfl) rfl okA cz ⟨⟨rfl,rfl⟩,trivial⟩ rfl rfl rfl rfl rfl rfl rfl rfl ?_;cbv;refine⟨zE om om,(out',i+1,d),⟨om,om,hI'⟩,om,.le ?_ ?_ rfl⟩;{cbv;exact⟨lR,lR,lR,lR,lR,lR,zC om,trivial⟩};{cbv;exact⟨okA,okA,okA,zA rfl,trivial⟩}
 ·(have hi:i=l.length:=by simp only[zO,j1] at h5;(try dsimp only [zJ] at *);omega);rw[hi,List.drop_length] at hI
  cbv;refine z9 (fun e1=>?_) (fun e1=>?_)
  ·(have hM':M=out:=by rw[hI,e1];exact List.append_nil _);cbv
   subst hM';refine zL6 _ (.trans (.le (ps':=⟨[(6,.ptr 6 0)],[(6,.box [.osl 200 4 (fun _=>0) (fun _=>M.length),.bool (fun _=>fc.neg),nat fc.num,nat fc.den]),(200,.arr 4 (fun _=>enc tc (tR M)))]⟩) ?_ ?_ rfl) (.frz 200 rfl rfl ?_ ?_)) rfl ?_;{cbv;exact okA};{cbv;exact⟨okA,zA rfl,trivial⟩};{exact⟨trivial,trivial⟩};{cbv;exact⟨⟨yL (by simp[zO,j1]),trivial⟩,trivial⟩};{cbv;exact⟨zX (List.take_of_length_le (by simp[zO,j1])),lR,lR,lR,trivial⟩}
  ·(have hM':M=pcr out v q:=by rw[hI,e1];show out++pc v q []=_;rw[<-r7,List.append_nil]);have cz1:=sNz out v q hqsz (by omega);rw[<-hM'] at cz1;generalize zS q=X at *
   cbv;refine cA cc ?_;cbv;refine yP (fun _=>200) (Wk.sel _ [3,6,51,55] [3,6,200] rfl) rfl okA cz1 ⟨⟨rfl,rfl⟩,trivial⟩ rfl rfl rfl rfl rfl rfl rfl rfl ?_;cbv;refine zL6 _ (.trans (.le (ps':=⟨[(6,.ptr 6 0)],[(6,.box [.osl 200 4 (fun _=>0) (fun _=>M.length),.bool (fun _=>fc.neg),nat fc.num,nat fc.den]),(200,.arr 4 (fun _=>enc tc (tR M)))]⟩) ?_ ?_ rfl) (.frz 200 rfl rfl ?_ ?_)) rfl ?_;{cbv;exact okA};{cbv;exact⟨okA,zA rfl,trivial⟩};{exact⟨trivial,trivial⟩};{cbv;exact⟨⟨yL (by simp[zO,j1]),trivial⟩,trivial⟩};{cbv;exact⟨zX (List.take_of_length_le (by simp[zO,j1])),lR,lR,lR,trivial⟩}
def wB (l g:List (Int×Rat)):List (Int×Rat):=g.foldl (fun a t=>wE t.1 t.2 false a) l
theorem zAP (l g:List (Int×Rat))(t:Int×Rat):wB l (g++[t])=wE t.1 t.2 false (wB l g):=by unfold wB;rw[List.foldl_append];rfl
theorem tV (v:Int)(q:Rat):∀ (d:Bool) (l:List (Int×Rat)),(wE v q d l).length<=l.length+(if d=true then 0 else 1)
 |true,[]=>by simp[wE]| false,[]=>by have:=lV v q [];simpa[wE] using this| d,t::r=>by
  have h1:=tV v q true r;have h2:=tV v q d r;unfold wE;split
  ·have:=lV t.1 (t.2+q) (wE v q true r);simp only[List.length_cons,if_true] at *
   omega
  ·split
   ·rename_i e;have g1:=lV t.1 t.2 (wE v q true r);have g2:=lV v q (pc t.1 t.2 (wE v q true r));rw[e.1];simp only[List.length_cons,if_true] at *
    rw[if_neg (by decide)];omega
   ·have:=lV t.1 t.2 (wE v q d r);simp only[List.length_cons] at *
    omega
theorem bL:∀ (g l:List (Int×Rat)),(wB l g).length<=l.length+g.length
 |[],l=>by simp[wB]| t::g,l=>by
  have h1:=bL g (wE t.1 t.2 false l);have h2:=tV t.1 t.2 false l;show (wB (wE t.1 t.2 false l) g).length<=_;simp only[List.length_cons] at *
  rw[if_neg (by decide)] at h2;omega
end Go.Proofs.YtfainocfaddbdaaGreat
