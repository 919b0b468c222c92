/- A part of the proof: WvC. -/
import Derived.Test.YtfainocfaddbdaaGreatV40
import Derived.Test.YtfainocfaddbdaaGreatV43
set_option linter.all false
namespace Go.Proofs.YtfainocfaddbdaaGreat
open Go
set_option maxRecDepth 100000
set_option maxHeartbeats 4000000
theorem A.cq_of {a:A}{v:Int}(hv:a.valid v=true)(hs:a.sz (2^20)):a.cq:=by
 have hc:=(jJ hv).1;have e:∀ x:R,x.sz (2^20)->(∃ q,x=zS q)->zK 30 [rv x,rv x] (.int .i64 (fun _=>0)):=fun x hx ⟨q,hq⟩=>by have h1:=hx.fits (by decide);rw[hq,y6] at h1;rw[hq];exact tW q (h1.mono (by decide))
 refine⟨e _ hs.c ⟨a.f.c,(congrArg A.c hc).symm⟩,fun t ht=>e _ (hs.t.sz t ht) ?_,by have:=hs.t.len;omega⟩;have h2:tR (tq a.ts)=a.ts:=congrArg A.ts hc;rw[<-h2] at ht;obtain⟨u,_,rfl⟩:=List.mem_map.1 (show t∈(tq a.ts).map fun t=>(t.1,zS t.2) from ht);exact⟨u.2,rfl⟩
def addA (v:Int) (us:List A) (a:A):List A:=if a.valid v=true then us++[a] else us
def addI (v:Int) (a:A):Int:=if a.valid v=true then 0 else 1
theorem zH7 (v:Int)(us:List A)(ob a:A)(ha:a.sz (2^32))(hu:us.length<4096):Sound 39 [.ptr 1000000 0,av a] [(1000000,wB 31 v ob.ts ob.c (WT.new us))] [(31,wR (WT.new us))] (.int .i64 (fun _=>addI v a)) [(1000000,wB 31 v ob.ts ob.c (WT.new (addA v us a)))] [(31,wR (WT.new (addA v us a)))] /\ zK 38 [pgv ⟨v,us,ob⟩,av a] (.tup [pgv ⟨v,addA v us a,ob⟩,.int .i64 (fun _=>addI v a)]):=by
 unfold addA addI;by_cases hv:a.valid v=true;{rw[if_pos hv,if_pos hv];exact⟨l7 a v us ob.ts ob.c false 0 ⟨false,[],[]⟩ [] [] [] [] 0 ha hv hu (by simp),zPM ⟨v,us,ob⟩ a ha hv hu⟩}
 ·(rw[if_neg hv,if_neg hv];have hv':a.valid v=false:=by cases e:a.valid v with|true=>exact absurd e hv|false=>rfl);exact⟨zJ7 a v us ob.ts ob.c false 0 ⟨false,[],[]⟩ [] [] [] [] 0 ha hv',zPL ⟨v,us,ob⟩ a ha hv'⟩
theorem zN4 (P:Prg)(rows:List A)(h:P.bk (2^20))(hr:(∀ a,a∈rows->a.bk (2^20))/\rows.length<=2^20):zK 15 [pgv P,alv rows] (.bool (fun _=>true)):=by
 have hz:=h.sz (m:=2^32) (Nat.le_refl _) (by decide);have hz0:=h.sz (m:=2^20) (Nat.le_refl _) (Nat.le_refl _);have hrz:∀ a,a∈rows->a.sz (2^20):=fun a ha=>(hr.1 a ha).sz (Nat.le_refl _) (by decide);have hrl:=hr.2;have cv:=zIB P hz;obtain⟨tru,htru⟩:∃ b,b=true:=⟨_,rfl⟩;have ca:=zCG htru;have facts:P.small=true->rows.length<=5->∃ J:Nat->List A->Prop,
   Sound 36 [pgv P] [] [] (.tup [.ptr 10 0,.int .i64 (fun _=>0)]) [] [(10,wB 8 P.v P.ob.ts P.ob.c (WT.new P.rows)),(8,wR (WT.new P.rows))]/\J 0 P.rows /\
   (∀ (i:Nat) us a,rows[i]?=some a->J i us->∃ us' e,Sound 39 [.ptr 1000000 0,av a] [(1000000,wB 31 P.v P.ob.ts P.ob.c (WT.new us))] [(31,wR (WT.new us))] (.int .i64 (fun _=>e)) [(1000000,wB 31 P.v P.ob.ts P.ob.c (WT.new us'))] [(31,wR (WT.new us'))] /\
    zK 38 [pgv ⟨P.v,us,P.ob⟩,av a] (.tup [pgv ⟨P.v,us',P.ob⟩,.int .i64 (fun _=>e)])/\J (i+1) us') /\
   ∀ us,J rows.length us->Sound 40 [.ptr 1000000 0] (wS 1000000 1000001 P.v us P.ob.ts P.ob.c false 0 ⟨false,[],[]⟩ [] [] [] [] 0 0) [] (pgv ⟨P.v,us,P.ob⟩) (wS 1000000 1000001 P.v us P.ob.ts P.ob.c false 0 ⟨false,[],[]⟩ [] [] [] [] 0 0) [] /\
    zK 41 [pgv ⟨P.v,us,P.ob⟩,pgv ⟨P.v,us,P.ob⟩] (.bool (fun _=>tru)):=fun e1 e2=>by
  obtain⟨v,fs,ob,rfl,hl,hw⟩:=aP e1;have hp:=hw.px;have hob:=hp.obj.2.valid;refine⟨fun i us=>us.length<=fs.length+i/\∀ a,a∈us->a.valid v=true/\a.sz (2^20),New.of rfl hp,⟨by show (fs.map fA).length<=_;rw[List.length_map];omega,fun a ha=>?_⟩,fun i us a ha hj=>?_,fun us hj=>?_⟩;{refine⟨?_,hz0.rows.sz a ha⟩;obtain⟨f,hf,rfl⟩:=List.mem_map.1 (show a∈fs.map fA from ha);exact (hp.rows f hf).2.valid};{have hi:i<rows.length:=(List.getElem?_eq_some_iff.1 ha).1;have hm:=List.mem_of_getElem? ha;obtain⟨c1,c2⟩:=zH7 v us (fA ob) a ((hrz a hm).mono (by decide)) (by omega);refine⟨addA v us a,addI v a,c1,c2,?_⟩;unfold addA;split;{rename_i hv;refine⟨by rw[List.length_append];show us.length+1<=_;omega,fun b hb=>?_⟩;rcases List.mem_append.1 hb with w|w;{exact hj.2 b w};{rw[List.mem_singleton.1 w];exact⟨hv,hrz a hm⟩}};{exact⟨by omega,hj.2⟩}};{refine⟨zJ6 ⟨v,us,fA ob⟩ (by show us.length<_;omega) (fun a ha=>by have:=(hj.2 a ha).2.t.len;omega) (by have:=hz0.ob.t.len;exact Nat.lt_of_lt_of_le this (by decide)) false 0 ⟨false,[],[]⟩ [] [] [] [] 0 0,?_⟩;rw[htru];exact zKA ⟨v,us,fA ob⟩ (by show us.length<_;omega) (fun a ha=>A.cq_of (hj.2 a ha).1 (hj.2 a ha).2) (A.cq_of hob hz0.ob)}
 generalize P.small=b at *
 clear hz hz0 hrz h hr;obtain⟨n,us,ob⟩:=P;obtain⟨ots,oc⟩:=ob;refine sF Tryz.f15 ?_;cbv;refine cA ca ?_;cbv;refine z4 (fun e=>?_) (fun e=>by rw[htru] at e;cases e);cbv;refine cA cv ?_;cbv;refine xO (fun e1=>?_) (fun e1=>?_)
 rotate_left
 ·cbv
  (refine rC ?_;cbv)
  exact zQ rfl
 cbv;refine zE (fun e2=>?_) (fun e2=>?_)
 ·cbv
  (refine rC ?_;cbv)
  exact zQ rfl
 obtain⟨J,k0,j0,st,en⟩:=facts e1 (by rw[zO] at e2;(try dsimp only [zL] at *);omega);clear facts cv ca;cbv;refine z7 (fun n=>match nqb n 1000000 with|true=>301|false=>match nqb n 1000001 with|true=>302|false=>match nqb n 31 with|true=>302|false=>match nqb n 10 with|true=>301|false=>match nqb n 8 with|true=>302|false=>n) (.refl _) rfl okA k0 (by exact trivial) rfl rfl rfl rfl rfl rfl rfl rfl ?_;cbv;refine w8 rfl ?_;cbv;refine jQ rfl ?_;cbv;refine z8 (σ:=Nat×List A) (fun s=>⟨[(1,alv rows),(2,.ptr 2 0),(5,.ptr 301 0),(7,.int .i64 (fun _=>(s.1:Int)))],[(2,.box [.int .i64 (fun _=>n),alv s.2,tsv ots,.bool (fun _=>oc.neg),nat oc.num,nat oc.den]),(301,wB 302 n ots oc (WT.new s.2)),(302,wR (WT.new s.2))]⟩)
  (fun s=>s.1<=rows.length/\J s.1 s.2) (fun s=>rows.length-s.1) (0,us) ⟨Nat.zero_le _,j0⟩ (.le okZ (by cbv;repeat' first|exact trivial|exact lR|exact zA rfl|exact zC om|exact zM rfl|exact zJ (by assumption)|exact zQ (by assumption)|exact zH (by assumption)|exact⟨rfl⟩|apply And.intro) rfl) ?_
 intro s hs;obtain⟨i,us⟩:=s;obtain⟨hi,hj⟩:=hs;dsimp only at hi hj;cbv;refine zE (fun h5=>?_) (fun h5=>?_)
 ·have hlt:=fW h5;obtain⟨a,ha⟩:=uD hlt;obtain⟨us',e,q1,q2,q3⟩:=st i us a ha hj;obtain⟨ats,acc⟩:=a;have q2':zK 38 [.agg [.int .i64 (fun _=>n),alv us,tsv ots,.bool (fun _=>oc.neg),nat oc.num,nat oc.den],.agg [tsv ats,.bool (fun _=>acc.neg),nat acc.num,nat acc.den]] (.tup [.agg [.int .i64 (fun _=>n),alv us',tsv ots,.bool (fun _=>oc.neg),nat oc.num,nat oc.den],.int .i64 (fun _=>e)]):=q2;clear st en q2;cbv;refine cZ (σ:=Unit) (fun _=>⟨[(1,alv rows),(2,.ptr 2 0),(5,.ptr 301 0),(7,.int .i64 (fun _=>(i:Int))),(8,.ptr 8 0),(9,.int .i64 (fun _=>e))],[(2,.box [.int .i64 (fun _=>n),alv us,tsv ots,.bool (fun _=>oc.neg),nat oc.num,nat oc.den]),(301,wB 302 n ots oc (WT.new us)),(302,wR (WT.new us)),(8,.box [.int .i64 (fun _=>n),alv us',tsv ots,.bool (fun _=>oc.neg),nat oc.num,nat oc.den])]⟩) (fun _=>True)
   (.le (ps':=⟨[(1,alv rows),(2,.ptr 2 0),(5,.ptr 301 0),(7,.int .i64 (fun _=>(i:Int)))],[(2,.box [.int .i64 (fun _=>n),alv us,tsv ots,.bool (fun _=>oc.neg),nat oc.num,nat oc.den]),(301,wB 302 n ots oc (WT.new us)),(302,wR (WT.new us))]⟩) okZ (by cbv;repeat' first|exact trivial|exact lR|exact zA rfl|exact zC om|exact zM rfl|exact zJ (by assumption)|exact zQ (by assumption)|exact zH (by assumption)|exact⟨rfl⟩|apply And.intro) rfl) (by cbv) ?_ ?_
  ·cbv
   repeat' first
    |exact trivial
    |(refine vI ha uN kP ?_;cbv)
    |(refine x6 rfl okA (q2') rfl ?_;cbv)
    |exact⟨(),trivial,.le okZ (by cbv;repeat' first|exact trivial|exact lR|exact zA rfl|exact zC om|exact zM rfl|exact zJ (by assumption)|exact zQ (by assumption)|exact zH (by assumption)|exact⟨rfl⟩|apply And.intro) rfl⟩
    |apply And.intro
   done
  intro _ _;cbv;refine vI ha uN kP ?_;cbv;refine z7 (fun n=>match nqb n 1000000 with|true=>301|false=>match nqb n 1000001 with|true=>302|false=>match nqb n 31 with|true=>302|false=>match nqb n 10 with|true=>301|false=>match nqb n 8 with|true=>302|false=>n) (.refl _) rfl okA q1 (by exact⟨⟨rfl,rfl⟩,⟨rfl,rfl⟩,trivial⟩) rfl rfl rfl rfl rfl rfl rfl rfl ?_;cbv;refine tQ rfl ?_;cbv;exact⟨zD om om,(i+1,us'),⟨hlt,q3⟩,by show rows.length-(i+1)<rows.length-i;omega,.le okZ (by cbv;repeat' first|exact trivial|exact lR|exact zA rfl|exact zC om|exact zM rfl|exact zJ (by assumption)|exact zQ (by assumption)|exact zH (by assumption)|exact⟨rfl⟩|apply And.intro) rfl⟩
 ·(have he:i=rows.length:=by have:=aH h5 hi;omega);subst he
  obtain⟨q1,q2⟩:=en us hj;clear st en;cbv;refine zY 10 (by cbv) ?_;cbv;refine wF (fun n=>match nqb n 1000000 with|true=>301|false=>match nqb n 1000001 with|true=>302|false=>match nqb n 31 with|true=>302|false=>match nqb n 10 with|true=>301|false=>match nqb n 8 with|true=>302|false=>n) okA q1 (by exact⟨⟨rfl,rfl⟩,⟨rfl,rfl⟩,trivial⟩) rfl rfl rfl rfl rfl rfl ?_;cbv;refine dA q2 ?_;cbv;refine xO (fun e=>?_) (fun e=>by rw[htru] at e;cases e);cbv;refine wF (fun n=>match nqb n 1000000 with|true=>301|false=>match nqb n 1000001 with|true=>302|false=>match nqb n 31 with|true=>302|false=>match nqb n 10 with|true=>301|false=>match nqb n 8 with|true=>302|false=>n) okA (zMU n us ots oc false 0 ⟨false,[],[]⟩ [] [] [] [] 0 0) (by exact⟨⟨rfl,rfl⟩,⟨rfl,rfl⟩,trivial⟩) rfl rfl rfl rfl rfl rfl ?_;cbv
  (refine rC ?_;cbv)
  exact zH (decide_eq_true (by rw[zO]))
end Go.Proofs.YtfainocfaddbdaaGreat
