/- A part of the proof: RgA, RgB. -/
import Derived.Test.YtfainocfaddbdaaGreatV23
set_option linter.all false
namespace Go.Proofs.YtfainocfaddbdaaGreat
open Go
set_option maxRecDepth 100000
set_option maxHeartbeats 1000000
abbrev tvq (v:Int) (x:R):PV:=.agg [.int .i64 (fun _=>v),.bool (fun _=>x.neg),nat x.num,nat x.den]
theorem sNz (l:List (Int×Rat))(v:Int)(q:Rat)(hq:Fits (2^36) q)(hl:l.length<2^39):Sound 68 [.osl 100 4 (fun _=>0) (fun _=>l.length),tvq v (zS q)] [] [(100,.arr 4 (fun _=>enc tc (tR l)))] (.osl 100 4 (fun _=>0) (fun _=>(pcr l v q).length)) [] [(100,.arr 4 (fun _=>enc tc (tR (pcr l v q))))]:=by
 refine sF Tryz.f68 ?_;have cs:=s35 (zS q) (by have:=(yX hq).n;omega);rw[y6] at cs;have h1:xJ q≠0->pcr l v q=l++[(v,q)]:=fun h=>if_neg (sgnQ_ne.1 h);have h2:xJ q=0->pcr l v q=l:=fun h=>if_pos (by have:=fun g=>sgnQ_ne.2 g h;simpa using this);have hR:tR [(v,q)]=[(v,zS q)]:=rfl;generalize pcr l v q=P at *
 generalize xJ q=sg at *
 generalize zS q=W at *
 clear hq;cbv;refine cA cs ?_;cbv;refine zE (fun h=>?_) (fun h=>?_);{have hP:=h2 h;cbv;subst hP;exact zK3 100 (.refl _) rfl rfl rfl (by cbv;exact lR)};{have hP:=h1 h;cbv;subst hP;refine wN zFS rfl rfl rfl (by simp only[zO,hH]) rfl ⟨by simp[yN,xL]⟩ (yE (by simp only[zO,hH,yN,List.length_cons,List.length_nil];omega) (by simp only[zO,hH,yN,List.length_cons,List.length_nil];omega)) rfl ?_;cbv;refine zK3 (ps':=⟨[(4,.osl 13 4 (fun _=>0) (fun _=>(l++[(v,q)]).length))],[(13,.arr 4 (fun _=>enc tc (tR (l++[(v,q)]))))]⟩) 13 (.le ?_ ?_ rfl) rfl rfl rfl ?_;{cbv;exact⟨z5 rfl (by simp[zO,hH,yN]),trivial⟩};{cbv;exact⟨zA (by rw[zNY,hR,<-jC];rfl),trivial⟩};{cbv;exact lR}}
def wH (v:Int) (q:Rat):Bool->List (Int×Rat)->List (Int×Rat)
 |d,[]=>if d=true then [] else pc v q []| d,t::r=>if t.1=v then pc t.1 (t.2+q) (wH v q true r) else if d=false/\v<t.1 then pc v q (pc t.1 t.2 (wH v q true r)) else pc t.1 t.2 (wH v q d r)
theorem zPP (l:List (Int×Rat))(fc:R)(v:Int)(c:R)(hl:Tfit (2^30) l)(hc:c.sz (2^30)):zK 72 [av ⟨tR l,fc⟩,.int .i64 (fun _=>v),rv c] (av ⟨tR (wH v c.q false l),fc⟩):=by
 refine sF Tryz.f72 ?_;have cfc:=hc.fits (by decide);have cc:=s47 c (hc.mono (by decide));have hll:=hl.len;have hadd:∀ t,t∈l->zK 32 [rv (zS t.2),rv c] (rv (zS (t.2+c.q))):=fun t ht=>by have:=s44 (zS t.2) c ((yX (hl.fit t ht)).mono (by decide)) (hc.mono (by decide));rw[y6] at this;exact this
 have hasz:∀ t,t∈l->Fits (2^36) (t.2+c.q):=fun t ht=>(tG (hl.fit t ht) cfc).mono (by decide);have htsz:∀ t,t∈l->Fits (2^36) t.2:=fun t ht=>(hl.fit t ht).mono (by decide);have hqsz:Fits (2^36) c.q:=cfc.mono (by decide);generalize hM:wH v c.q false l=M;generalize hcq:c.q=q at *
 clear hl hc hcq cfc;cbv;refine z8 (σ:=List (Int×Rat)×Nat×Bool) (fun s=>⟨[(1,.int .i64 (fun _=>v)),(3,.ptr 3 0),(5,.ptr 5 0),(6,.ptr 6 0),(7,.osl 200 4 (fun _=>0) (fun _=>s.1.length)),(8,.bool (fun _=>s.2.2)),(9,.int .i64 (fun _=>(s.2.1:Int)))],
   [(3,.box [tsv (tR l),.bool (fun _=>fc.neg),nat fc.num,nat fc.den]),(5,.box [.bool (fun _=>c.neg),nat c.num,nat c.den]),(6,.box [.nil,.ff,.nil,.nil]),(200,.arr 4 (fun _=>enc tc (tR s.1)))]⟩)
  (fun s=>s.2.1<=l.length/\s.1.length<=2*s.2.1/\M=s.1++wH v q s.2.2 (l.drop s.2.1)) (fun s=>l.length-s.2.1)
  ([],0,false) ⟨om,by simp,hM.symm⟩
  (.trans (.le (ps':=⟨[(1,.int .i64 (fun _=>v)),(3,.ptr 3 0),(5,.ptr 5 0),(6,.ptr 6 0),(7,.nil),(8,.bool (fun _=>false)),(9,.int .i64 (fun _=>((0:Nat):Int)))],[(3,.box [tsv (tR l),.bool (fun _=>fc.neg),nat fc.num,nat fc.den]),(5,.box [.bool (fun _=>c.neg),nat c.num,nat c.den]),(6,.box [.nil,.ff,.nil,.nil])]⟩) ?_ ?_ rfl)
   (.trans (.adoptT (ps:=⟨[(1,.int .i64 (fun _=>v)),(3,.ptr 3 0),(5,.ptr 5 0),(6,.ptr 6 0),(7,.nil),(8,.bool (fun _=>false)),(9,.int .i64 (fun _=>((0:Nat):Int)))],[(3,.box [tsv (tR l),.bool (fun _=>fc.neg),nat fc.num,nat fc.den]),(5,.box [.bool (fun _=>c.neg),nat c.num,nat c.den]),(6,.box [.nil,.ff,.nil,.nil])]⟩) 200 4 7 rfl rfl) (.le ?_ ?_ rfl))) ?_
 {cbv;exact⟨lR,lR,lR,lR,lR,zJ rfl,zC rfl,trivial⟩};{cbv;exact okA};{cbv;exact⟨lR,lR,lR,lR,z5 rfl rfl,lR,lR,trivial⟩};{cbv;exact⟨okA,okA,okA,zA rfl,trivial⟩};intro s hs;obtain⟨h1,hL,hI⟩:=hs;generalize s.1=out at *
 generalize s.2.1=i at *
 generalize s.2.2=d at *
 clear hM;cbv;refine zE (fun h5=>?_) (fun h5=>?_)
 ·cbv;refine tB (l:=tR l) i om (by simp only[zO,hH] at h5 ⊢;(try dsimp only [zL] at *);omega) uL kG (fun t' ht'=>?_);obtain⟨t,ht,rfl⟩:∃ t,l[i]?=some t/\t'=(t.1,zS t.2):=by
   unfold tR at ht';rw[List.getElem?_map] at ht';cases hx:l[i]? with
   |none=>rw[hx] at ht';cases ht'
   |some t=>rw[hx] at ht';exact⟨t,rfl,(Option.some.inj ht').symm⟩
  (have hmem:=List.mem_of_getElem? ht;have hlt:i<l.length:=(List.getElem?_eq_some_iff.1 ht).1;rw[vY ht,show wH v q d (t::l.drop (i+1))=if t.1=v then pc t.1 (t.2+q) (wH v q true (l.drop (i+1))) else if d=false/\v<t.1 then pc v q (pc t.1 t.2 (wH v q true (l.drop (i+1)))) else pc t.1 t.2 (wH v q d (l.drop (i+1))) from rfl] at hI;have f1:t.1=v->M=pcr out t.1 (t.2+q)++wH v q true (l.drop (i+1)):=fun e=>by rw[hI,if_pos e,pK]);have f2:¬t.1=v->d=false->v<t.1->M=pcr (pcr out v q) t.1 t.2++wH v q true (l.drop (i+1)):=fun e e2 e3=>by rw[hI,if_neg e,if_pos ⟨e2,e3⟩,pK,pK]
  (have f3:¬t.1=v->¬(d=false/\v<t.1)->M=pcr out t.1 t.2++wH v q d (l.drop (i+1)):=fun e e2=>by rw[hI,if_neg e,if_neg e2,pK]);clear hI
  obtain⟨Y,hY⟩:∃ Y,zS t.2=Y:=⟨_,rfl⟩;rw[hY];cbv;refine zE (fun e1=>?_) (fun e1=>?_)
  ·have hI':M=pcr out t.1 (t.2+q)++wH v q true (l.drop (i+1)):=f1 e1;have ca:=hadd t hmem;have cz:=sNz out t.1 (t.2+q) (hasz t hmem) (by omega);have hpl:=pJ out t.1 (t.2+q);generalize pcr out t.1 (t.2+q)=out' at *
   generalize zS (t.2+q)=X at *
   rw[hY] at ca;cbv;refine cA ca ?_;cbv;refine z7 (fun _=>200) (Wk.sel _ [1,3,5,6,8,9,46,47] [3,5,6,200] rfl) rfl okA cz ⟨⟨rfl,rfl⟩,trivial⟩ rfl rfl rfl rfl rfl rfl rfl rfl ?_;cbv;refine⟨zD om om,(out',i+1,true),⟨om,om,hI'⟩,om,.le ?_ ?_ rfl⟩;{cbv;exact⟨lR,lR,lR,lR,lR,zQ rfl,zC om,trivial⟩};{cbv;exact⟨okA,okA,okA,zA rfl,trivial⟩}
  ·cbv;refine xO (fun e2=>?_) (fun e2=>?_)
   ·have hI':M=pcr out t.1 t.2++wH v q d (l.drop (i+1)):=f3 e1 (fun h=>absurd (e2.symm.trans h.1) (by decide));have cz:=sNz out t.1 t.2 (htsz t hmem) (by omega);have hpl:=pJ out t.1 t.2;generalize pcr out t.1 t.2=out' at *
    rw[hY] at cz;cbv;refine z7 (fun _=>200) (Wk.sel _ [1,3,5,6,8,9,46,47] [3,5,6,200] rfl) rfl okA cz ⟨⟨rfl,rfl⟩,trivial⟩ rfl rfl rfl rfl rfl rfl rfl rfl ?_;cbv;refine⟨zD om om,(out',i+1,d),⟨om,om,hI'⟩,om,.le ?_ ?_ rfl⟩;{cbv;exact⟨lR,lR,lR,lR,lR,lR,zC om,trivial⟩};{cbv;exact⟨okA,okA,okA,zA rfl,trivial⟩}
   ·cbv;refine zE (fun e3=>?_) (fun e3=>?_)
    ·have hI':M=pcr (pcr out v q) t.1 t.2++wH v q true (l.drop (i+1)):=f2 e1 e2 e3;have cz1:=sNz out v q hqsz (by omega);have hpl1:=pJ out v q;have cz2:=sNz (pcr out v q) t.1 t.2 (htsz t hmem) (by omega);have hpl2:=pJ (pcr out v q) t.1 t.2;generalize pcr (pcr out v q) t.1 t.2=out2 at *
     generalize pcr out v q=out1 at *
     rw[hY] at cz2;generalize zS q=X at *
     cbv;refine cA cc ?_;cbv;refine z7 (fun _=>200) (Wk.sel _ [1,3,5,6,9,10,40,44] [3,5,6,10,200] rfl) rfl okA cz1 ⟨⟨rfl,rfl⟩,trivial⟩ rfl rfl rfl rfl rfl rfl rfl rfl ?_;cbv;refine z7 (fun _=>200) (Wk.sel _ [1,3,5,6,8,9,46,47] [3,5,6,200] rfl) rfl okA cz2 ⟨⟨rfl,rfl⟩,trivial⟩ rfl rfl rfl rfl rfl rfl rfl rfl ?_;cbv;refine⟨zD om om,(out2,i+1,true),⟨om,om,hI'⟩,om,.le ?_ ?_ rfl⟩;{cbv;exact⟨lR,lR,lR,lR,lR,zQ rfl,zC om,trivial⟩};{cbv;exact⟨okA,okA,okA,zA rfl,trivial⟩}
    ·have hI':M=pcr out t.1 t.2++wH v q d (l.drop (i+1)):=f3 e1 (fun h=>e3 h.2);have cz:=sNz out t.1 t.2 (htsz t hmem) (by omega);have hpl:=pJ out t.1 t.2;generalize pcr out t.1 t.2=out' at *
     rw[hY] at cz;cbv;refine z7 (fun _=>200) (Wk.sel _ [1,3,5,6,8,9,46,47] [3,5,6,200] rfl) rfl okA cz ⟨⟨rfl,rfl⟩,trivial⟩ rfl rfl rfl rfl rfl rfl rfl rfl ?_;cbv;refine⟨zD om om,(out',i+1,d),⟨om,om,hI'⟩,om,.le ?_ ?_ rfl⟩;{cbv;exact⟨lR,lR,lR,lR,lR,lR,zC om,trivial⟩};{cbv;exact⟨okA,okA,okA,zA rfl,trivial⟩}
 ·(have hi:i=l.length:=by simp only[zO,hH] at h5;(try dsimp only [zL] at *);omega);rw[hi,List.drop_length] at hI
  cbv;refine z4 (fun e1=>?_) (fun e1=>?_)
  ·(have hM':M=out:=by rw[hI,e1];exact List.append_nil _);cbv
   subst hM';refine zK2 _ (.trans (.le (ps':=⟨[(6,.ptr 6 0)],[(6,.box [.osl 200 4 (fun _=>0) (fun _=>M.length),.bool (fun _=>fc.neg),nat fc.num,nat fc.den]),(200,.arr 4 (fun _=>enc tc (tR M)))]⟩) ?_ ?_ rfl) (.frz 200 rfl rfl ?_ ?_)) rfl ?_;{cbv;exact okA};{cbv;exact⟨okA,zA rfl,trivial⟩};{exact⟨trivial,trivial⟩};{cbv;exact⟨⟨yI (by simp[zO,hH]),trivial⟩,trivial⟩};{cbv;exact⟨zX (List.take_of_length_le (by simp[zO,hH])),lR,lR,lR,trivial⟩}
  ·(have hM':M=pcr out v q:=by rw[hI,e1];show out++pc v q []=_;rw[<-pK,List.append_nil]);have cz1:=sNz out v q hqsz (by omega);rw[<-hM'] at cz1;generalize zS q=X at *
   cbv;refine cA cc ?_;cbv;refine z7 (fun _=>200) (Wk.sel _ [3,6,51,55] [3,6,200] rfl) rfl okA cz1 ⟨⟨rfl,rfl⟩,trivial⟩ rfl rfl rfl rfl rfl rfl rfl rfl ?_;cbv;refine zK2 _ (.trans (.le (ps':=⟨[(6,.ptr 6 0)],[(6,.box [.osl 200 4 (fun _=>0) (fun _=>M.length),.bool (fun _=>fc.neg),nat fc.num,nat fc.den]),(200,.arr 4 (fun _=>enc tc (tR M)))]⟩) ?_ ?_ rfl) (.frz 200 rfl rfl ?_ ?_)) rfl ?_;{cbv;exact okA};{cbv;exact⟨okA,zA rfl,trivial⟩};{exact⟨trivial,trivial⟩};{cbv;exact⟨⟨yI (by simp[zO,hH]),trivial⟩,trivial⟩};{cbv;exact⟨zX (List.take_of_length_le (by simp[zO,hH])),lR,lR,lR,trivial⟩}
def wE (l g:List (Int×Rat)):List (Int×Rat):=g.foldl (fun a t=>wH t.1 t.2 false a) l
theorem zA6 (l g:List (Int×Rat))(t:Int×Rat):wE l (g++[t])=wH t.1 t.2 false (wE l g):=by unfold wE;rw[List.foldl_append];rfl
theorem mJ (v:Int)(q:Rat):∀ (d:Bool) (l:List (Int×Rat)),(wH v q d l).length<=l.length+(if d=true then 0 else 1)
 |true,[]=>by simp[wH]| false,[]=>by have:=iM v q [];simpa[wH] using this| d,t::r=>by
  have h1:=mJ v q true r;have h2:=mJ v q d r;unfold wH;split
  ·have:=iM t.1 (t.2+q) (wH v q true r);simp only[List.length_cons,if_true] at *
   omega
  ·split
   ·rename_i e;have g1:=iM t.1 t.2 (wH v q true r);have g2:=iM v q (pc t.1 t.2 (wH v q true r));rw[e.1];simp only[List.length_cons,if_true] at *
    rw[if_neg (by decide)];omega
   ·have:=iM t.1 t.2 (wH v q d r);simp only[List.length_cons] at *
    omega
theorem bY:∀ (g l:List (Int×Rat)),(wE l g).length<=l.length+g.length
 |[],l=>by simp[wE]| t::g,l=>by
  have h1:=bY g (wH t.1 t.2 false l);have h2:=mJ t.1 t.2 false l;show (wE (wH t.1 t.2 false l) g).length<=_;simp only[List.length_cons] at *
  rw[if_neg (by decide)] at h2;omega
end Go.Proofs.YtfainocfaddbdaaGreat
