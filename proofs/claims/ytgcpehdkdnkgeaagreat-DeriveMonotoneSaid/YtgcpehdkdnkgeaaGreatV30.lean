/- A part of the proof: CoA, RdA, RdB, LwA, LwB. -/
import Derived.Test.YtgcpehdkdnkgeaaGreatV29
import Derived.Test.YtgcpehdkdnkgeaaGreatV27
set_option linter.all false
namespace Go.Proofs.YtgcpehdkdnkgeaaGreat
open Go
set_option maxRecDepth 100000
set_option maxHeartbeats 2000000
def mR (l:List (Row × Rat)):List Mult:=l.map fun t=>⟨t.1,zJ t.2⟩
theorem x6 (l:List (Row × Rat)):(mR l).length=l.length:=by simp [mR]
theorem aU (l m:List (Row × Rat)):mR (l++m)=mR l++mR m:=by simp [mR]
def b8 (r:Row) (q:Rat) (rest:List (Row × Rat)):List (Row × Rat):=if 0<yB q then (r,q)::rest else rest
def dG (r:Row) (q:Rat):List Mult→List (Row × Rat)
 | []=>b8 r q []
 | m::t=>if m.row=r then dG r (q+m.c.q) t else b8 r q (dG m.row (0+m.c.q) t)
def grp:List Mult→List (Row × Rat)
 | []=>[]
 | m::t=>dG m.row 0 (m::t)
theorem zIF (r:Row)(q:Rat)(m:Mult)(t:List Mult):dG r q (m::t)=if m.row=r then dG r (q+m.c.q) t else b8 r q (grp (m::t)):=by
 rw[show dG r q (m::t)=if m.row=r then dG r (q+m.c.q) t else b8 r q (dG m.row (0+m.c.q) t) from rfl]
 rw[show grp (m::t)=dG m.row 0 (m::t) from rfl,show dG m.row 0 (m::t)=if m.row=m.row then dG m.row (0+m.c.q) t else b8 m.row 0 (dG m.row (0+m.c.q) t) from rfl,if_pos rfl]
def gr (l:List (Row × Rat)) (r:Row) (q:Rat):List (Row × Rat):=if 0<yB q then l++[(r,q)] else l
theorem zLM (l:List (Row × Rat))(r:Row)(q:Rat)(rest):gr l r q++rest=l++b8 r q rest:=by unfold gr b8;split <;> simp
theorem zLL (l:List (Row × Rat))(r:Row)(q:Rat):(gr l r q).length≤l.length+1:=by unfold gr;split <;> simp
def dP (l:List Mult):Int × List (Row × Rat):=if (l.any fun m=>decide (yB m.c.q<0))=true then (1,[]) else (0,grp (isr l).reverse)
theorem oA {x m:Mult}:∀ {l},m∈j5 x l→m=x∨m∈l
 | [],h=>by simp [j5] at h;exact .inl h
 | y::r,h=>by
  unfold j5 at h
  split at h
  ·rcases List.mem_cons.1 h with rfl | h
   ·exact .inr List.mem_cons_self
   ·rcases oA h with h | h
    ·exact .inl h
    ·exact .inr (List.mem_cons_of_mem _ h)
  ·exact List.mem_cons.1 h
theorem zG8 {m:Mult}:∀ {l:List Mult},m∈isr l→m∈l:=by
 have:∀ (l a:List Mult),m∈l.foldl (fun a x=>j5 x a) a→m∈a∨m∈l:=by
  intro l
  induction l with
  | nil=>intro a h;exact .inl h
  | cons x r ih =>
   intro a h
   rcases ih _ h with h | h
   ·rcases oA h with h | h
    ·exact .inr (by rw[h];exact List.mem_cons_self)
    ·exact .inl h
   ·exact .inr (List.mem_cons_of_mem _ h)
 intro l h
 rcases this l [] h with h | h
 ·exact absurd h (by simp)
 ·exact h
theorem zJQ (l:List Mult)(hl:l.length≤4096)(hs:Msz (2^20) l)(c2:Sound 118 [.osl 1000000 7 (fun _=>0) (fun _=>l.length),.fn 119 []] (mao 1000000 l) [] (.tup []) (mao 1000000 (isr l).reverse) []):zE 55 [mlv l] (.tup [mlv (mR (dP l).2),.int .i64 (fun _=>(dP l).1)]):=by
 refine sF Tryz.f55 ?_
 have c0:=zSL (fun m=>decide (yB m.c.q<0)) l (by omega) 116 [] (fun m hm=>zSM m (Nat.lt_of_le_of_lt (hs.sz m hm).n (by decide)))
 have c1:=sClM l (by omega)
 have hLl:(isr l).reverse.length=l.length:=by rw[List.length_reverse,lZ]
 have hLs:∀ m,m∈(isr l).reverse→m.c.sz (2^20):=fun m hm=>hs.sz m (zG8 (by simpa using hm))
 have d0:(l.any fun m=>decide (yB m.c.q<0))=true→dP l=(1,[]):=fun h=>if_pos h
 have d1:(l.any fun m=>decide (yB m.c.q<0))=false→dP l=(0,grp (isr l).reverse):=fun h=>if_neg (by rw[h];decide)
 generalize (l.any fun m=>decide (yB m.c.q<0))=neg at *
 generalize (isr l).reverse=L at *
 obtain⟨M,hM⟩:∃ M,M=(dP l).2:=⟨_,rfl⟩
 obtain⟨e,he⟩:∃ e,e=(dP l).1:=⟨_,rfl⟩
 rw[←hM,←he]
 have e0:neg=true→M=[]∧e=1:=fun h=>by rw[d0 h] at hM he;exact⟨hM,he⟩
 have e1:neg=false→M=grp L∧e=0:=fun h=>by rw[d1 h] at hM he;exact⟨hM,he⟩
 clear d0 d1 hM he
 have hgc:=zIF
 have hge:∀ r q,dG r q []=b8 r q []:=fun _ _=>rfl
 have hg0:grp []=[]:=rfl
 have hg1:∀ m t,grp (m::t)=dG m.row 0 (m::t):=fun _ _=>rfl
 obtain⟨G,hG⟩:∃ G,dG=G:=⟨_,rfl⟩
 obtain⟨H,hH⟩:∃ H,grp=H:=⟨_,rfl⟩
 rw[hG,hH] at hgc
 rw[hG] at hge
 rw[hH] at hg0
 rw[hG,hH] at hg1
 rw[hH] at e1
 clear hG hH
 cbv
 refine yX rfl (by exact⟨lR,⟨rfl,trivial⟩,trivial⟩) c0 rfl ?_
 cbv
 refine zS (fun h=>?_) (fun h=>?_)
 ·obtain⟨q1,q2⟩:=e0 h
  subst q1 q2
  cbv
  (refine rC ?_;cbv)
  exact okA
 obtain⟨hM,q2⟩:=e1 h
 subst q2
 clear e0 e1 c0
 cbv
 refine y8 (fun _=>300) (Wk.sel _ [11] [] rfl) rfl okA c1 trivial rfl rfl rfl rfl rfl rfl rfl rfl ?_
 cbv
 refine y8 (fun _=>300) (Wk.sel _ [4,13] [300] rfl) rfl (by exact⟨lR,⟨rfl,trivial⟩,trivial⟩) c2 ⟨⟨rfl,rfl⟩,trivial⟩ rfl rfl rfl rfl rfl rfl rfl rfl ?_
 cbv
 clear c1 c2
 refine zY (σ:=List (Row × Rat) × Nat) (fun s=>⟨[(4,mlv L),(5,.osl 55 7 (fun _=>0) (fun _=>s.1.length)),(6,.int .i64 (fun _=>(s.2:Int)))],[(55,.arr 7 (fun _=>enc mc (mR s.1)))]⟩)
  (fun s=>s.2≤L.length∧s.1.length≤s.2∧M=s.1++H (L.drop s.2)) (fun s=>L.length - s.2) ([],0) ⟨om,by simp,by rw[hM];rfl⟩
  (.trans (.frz 300 rfl rfl ?_ ?_) (.trans (.le (ps':=⟨[(4,mlv L),(5,.nil),(6,.int .i64 (fun _=>((0:Nat):Int)))],[]⟩) ?_ trivial rfl) (.trans (.adoptT (ps:=⟨[(4,mlv L),(5,.nil),(6,.int .i64 (fun _=>((0:Nat):Int)))],[]⟩) 55 7 5 rfl rfl) (.le ?_ ?_ rfl)))) ?_
 ·cbv
  exact⟨zX (by rw[zA];omega),zX (by rw[zA];omega),trivial⟩
 ·exact trivial
 ·cbv
  exact⟨zP (List.take_of_length_le (by rw[List.drop_zero,zA];omega)),lR,zC rfl,trivial⟩
 ·cbv
  exact⟨lR,z0 rfl rfl,lR,trivial⟩
 ·cbv
  exact⟨zF rfl,trivial⟩
 clear hM
 intro s hs'
 obtain⟨h1,h2,hI⟩:=hs'
 generalize s.1=out at *
 generalize s.2=i at *
 cbv
 refine zH (fun h5=>?_) (fun h5=>?_)
 rotate_left
 ·have hi:i=L.length:=by rw[zA] at h5;(try dsimp only [zG] at *);omega
  rw[hi,List.drop_length,hg0,List.append_nil] at hI
  cbv
  subst hI
  refine rP _ (.trans (.le (ps':=⟨[(2,.osl 55 7 (fun _=>0) (fun _=>M.length)),(3,.int .i64 (fun _=>0))],[(55,.arr 7 (fun _=>enc mc (mR M)))]⟩) ?_ ?_ rfl) (.frz 55 rfl rfl ?_ ?_)) rfl ?_
  ·cbv;exact okA
  ·cbv;exact⟨zF rfl,trivial⟩
  ·cbv;exact⟨zX (by simp [zA,x6]),trivial⟩
  ·exact trivial
  ·cbv;exact⟨zP (List.take_of_length_le (by simp [zA,x6])),lR,trivial⟩
 have hlt:i<L.length:=by rw[zA] at h5;(try dsimp only [zG] at *);omega
 obtain⟨m,hm⟩:=yA hlt
 have hdr:=zZ hm
 rw[hdr,hg1] at hI
 have idx:∀ {K:List PV→Prop},K (mc m)→IdxOk 7 (fun _=>enc mc L) (fun _=>(i:Int)) K:=fun hK=>y5 (l:=L) i rfl hlt yS yO (fun m' hm'=>by rw[hm] at hm';cases hm';exact hK)
 generalize hT0:G m.row 0 (m::L.drop (i+1))=T at *
 cbv
 refine idx ?_
 cbv
 clear idx
 refine zY (σ:=Nat × Rat) (fun s=>⟨[(4,mlv L),(5,.osl 55 7 (fun _=>0) (fun _=>out.length)),(6,.int .i64 (fun _=>(s.1:Int))),(7,.ptr 7 0),(8,.ptr 8 0)],[(7,.box (rwc m.row)),(8,.box [.bool (fun _=>(zJ s.2).neg),nat (zJ s.2).num,nat (zJ s.2).den]),(55,.arr 7 (fun _=>enc mc (mR out)))]⟩)
  (fun s=>i≤s.1∧s.1≤L.length∧T=G m.row s.2 (L.drop s.1)∧Fits (1+2^21 * s.1) s.2) (fun s=>L.length - s.1) (i,0) ⟨Nat.le_refl _,h1,by rw[←hT0,hdr],w8 (by omega)⟩ (.le ?_ ?_ rfl) ?_
 ·cbv
  exact okA
 ·show leO _ [(7,.box (rwc m.row)),(8,.box [.bool (fun _=>(zJ 0).neg),nat (zJ 0).num,nat (zJ 0).den]),(55,.arr 7 (fun _=>enc mc (mR out)))]
  rw[kB]
  cbv
  exact⟨okA,okA,zF rfl,trivial⟩
 clear hT0
 intro s hs'
 obtain⟨k1,k2,kT,hq⟩:=hs'
 generalize s.1=i' at *
 generalize s.2=q at *
 by_cases hlt':i'<L.length
 rotate_left
 ·have hi':i'=L.length:=by omega
  have hTT:T=b8 m.row q (H (L.drop i')):=by rw[kT,hi',List.drop_length,hge,hg0]
  obtain⟨Q0,hQ0⟩:∃ Q0,zJ q=Q0:=⟨_,rfl⟩
  cbv
  refine zO 13 (by cbv) ?_
  cbv
  refine zW (by rw[zA];(try dsimp only [zG] at *);omega) ?_
  clear hQ0
  have hT':M=gr out m.row q++H (L.drop i'):=by rw[hI,hTT,zLM]
  have hgl:=zLL out m.row q
  have csq:=s86 (zJ q) (Nat.lt_of_le_of_lt (z8 hq).n (by omega))
  rw[z9] at csq
  have hg1':0<yB q→gr out m.row q=out++[(m.row,q)]:=fun h=>if_pos h
  have hg2':¬ 0<yB q→gr out m.row q=out:=fun h=>if_neg h
  have hmr:mR [(m.row,q)]=[⟨m.row,zJ q⟩]:=rfl
  generalize gr out m.row q=out' at *
  generalize yB q=sg at *
  generalize zJ q=Q at *
  cbv
  refine cA csq ?_
  cbv
  refine zH (fun e3=>?_) (fun e3=>?_)
  ·have ho:=hg1' e3
   cbv
   subst ho
   refine wD uW rfl rfl rfl (by simp only[zA,x6]) rfl ⟨by simp [zQ,yW]⟩ (z7 (by simp only[zA,x6,zQ,List.length_cons,List.length_nil];omega) (by simp only[zA,x6,zQ,List.length_cons,List.length_nil];omega)) rfl ?_
   cbv
   refine⟨(out++[(m.row,q)],i'),⟨by dsimp only;omega,by dsimp only;omega,hT'⟩,by dsimp only;omega,?_⟩
   refine .le ?_ ?_ rfl
   ·cbv;exact⟨lR,z0 rfl (by simp [zA,x6,zQ]),lR,trivial⟩
   ·cbv;exact⟨zF (by rw[aU,hmr,←yH];rfl),trivial⟩
  ·have ho:=hg2' e3
   cbv
   subst ho
   refine⟨(out',i'),⟨by dsimp only;omega,by dsimp only;omega,hT'⟩,by dsimp only;omega,.le ?_ ?_ rfl⟩
   ·cbv;exact okA
   ·cbv;exact⟨zF rfl,trivial⟩
 obtain⟨u,hu⟩:=yA hlt'
 have hdr':=zZ hu
 rw[hdr',hgc] at kT
 have cad:=s138 (zJ q) u.c ((z8 hq).mono (by omega)) ((hLs u (List.mem_of_getElem? hu)).mono (by decide))
 rw[z9] at cad
 have hq2:Fits (1+2^21 * (i'+1)) (q+u.c.q):=(vI hq ((hLs u (List.mem_of_getElem? hu)).fits (by decide))).mono (by omega)
 have idx:∀ {K:List PV→Prop},K (mc u)→IdxOk 7 (fun _=>enc mc L) (fun _=>(i':Int)) K:=fun hK=>y5 (l:=L) i' rfl hlt' yS yO (fun m' hm'=>by rw[hu] at hm';cases hm';exact hK)
 have hne:¬ u.row=m.row→i<i':=fun h=>by
  rcases Nat.lt_or_ge i i' with g | g
  ·exact g
  ·have:i'=i:=by omega
   rw[this,hm] at hu
   exact absurd (by rw[Option.some.inj hu]) h
 have kT1:u.row=m.row→T=G m.row (q+u.c.q) (L.drop (i'+1)):=fun h=>by rw[kT,if_pos h]
 have kT2:¬ u.row=m.row→T=b8 m.row q (H (L.drop i')):=fun h=>by rw[kT,if_neg h,hdr']
 clear kT
 cbv
 refine zO 13 (by cbv) ?_
 cbv
 refine xR (by rw[zA];(try dsimp only [zG] at *);omega) ?_
 cbv
 refine idx ?_
 cbv
 refine zHE ?_
 cbv
 refine zH (fun e2=>?_) (fun e2=>?_)
 ·have kT':=kT1 e2
  generalize hq':q+u.c.q=q' at *
  generalize hR':zJ q'=Q' at *
  generalize zJ q=Q at *
  cbv
  refine zO 7 (by cbv) ?_
  cbv
  refine idx ?_
  cbv
  refine dA cad ?_
  cbv
  refine⟨zD om om,(i'+1,q'),⟨by dsimp only;omega,by dsimp only;omega,kT',hq2⟩,by dsimp only;omega,.le ?_ ?_ rfl⟩
  ·cbv;exact⟨lR,lR,zC om,lR,lR,trivial⟩
  ·show leO _ [(7,.box (rwc m.row)),(8,.box [.bool (fun _=>(zJ q').neg),nat (zJ q').num,nat (zJ q').den]),(55,.arr 7 (fun _=>enc mc (mR out)))]
   rw[hR']
   cbv
   exact⟨okA,okA,zF rfl,trivial⟩
 ·have hTT:=kT2 e2
  have hii:=hne e2
  clear idx cad
  have hT':M=gr out m.row q++H (L.drop i'):=by rw[hI,hTT,zLM]
  have hgl:=zLL out m.row q
  have csq:=s86 (zJ q) (Nat.lt_of_le_of_lt (z8 hq).n (by omega))
  rw[z9] at csq
  have hg1':0<yB q→gr out m.row q=out++[(m.row,q)]:=fun h=>if_pos h
  have hg2':¬ 0<yB q→gr out m.row q=out:=fun h=>if_neg h
  have hmr:mR [(m.row,q)]=[⟨m.row,zJ q⟩]:=rfl
  generalize gr out m.row q=out' at *
  generalize yB q=sg at *
  generalize zJ q=Q at *
  cbv
  refine cA csq ?_
  cbv
  refine zH (fun e3=>?_) (fun e3=>?_)
  ·have ho:=hg1' e3
   cbv
   subst ho
   refine wD uW rfl rfl rfl (by simp only[zA,x6]) rfl ⟨by simp [zQ,yW]⟩ (z7 (by simp only[zA,x6,zQ,List.length_cons,List.length_nil];omega) (by simp only[zA,x6,zQ,List.length_cons,List.length_nil];omega)) rfl ?_
   cbv
   refine⟨(out++[(m.row,q)],i'),⟨by dsimp only;omega,by dsimp only;omega,hT'⟩,by dsimp only;omega,?_⟩
   refine .le ?_ ?_ rfl
   ·cbv;exact⟨lR,z0 rfl (by simp [zA,x6,zQ]),lR,trivial⟩
   ·cbv;exact⟨zF (by rw[aU,hmr,←yH];rfl),trivial⟩
  ·have ho:=hg2' e3
   cbv
   subst ho
   refine⟨(out',i'),⟨by dsimp only;omega,by dsimp only;omega,hT'⟩,by dsimp only;omega,.le ?_ ?_ rfl⟩
   ·cbv;exact okA
   ·cbv;exact⟨zF rfl,trivial⟩
def yF (a b:Row):Bool:=if a.k=b.k then (if a.i=b.i then (if a.lo=b.lo then decide (a.hi<b.hi) else decide (a.lo<b.lo)) else decide (a.i<b.i)) else decide (a.k<b.k)
theorem zAK (a b:Row):yF a b=decide (xP a b<0):=by
 unfold yF xP orI cI
 rw[Bool.eq_iff_iff]
 split <;> (try split) <;> (try split) <;> simp only[decide_eq_true_eq] <;> (repeat' split) <;> omega
theorem zO3 (a b:Row):zE 135 [rwv a,rwv b] (.bool (fun _=>yF a b)):=by
 refine sF Tryz.f135 ?_
 have h1:¬ a.k=b.k→yF a b=decide (a.k<b.k):=fun h=>if_neg h
 have h2:a.k=b.k→¬ a.i=b.i→yF a b=decide (a.i<b.i):=fun h g=>by unfold yF;rw[if_pos h,if_neg g]
 have h3:a.k=b.k→a.i=b.i→¬ a.lo=b.lo→yF a b=decide (a.lo<b.lo):=fun h g e=>by unfold yF;rw[if_pos h,if_pos g,if_neg e]
 have h4:a.k=b.k→a.i=b.i→a.lo=b.lo→yF a b=decide (a.hi<b.hi):=fun h g e=>by unfold yF;rw[if_pos h,if_pos g,if_pos e]
 generalize yF a b=r at *
 cbv
 refine zH (fun e1=>?_) (fun e1=>?_)
 ·cbv
  refine zH (fun e2=>?_) (fun e2=>?_)
  ·cbv
   refine zH (fun e3=>?_) (fun e3=>?_)
   ·have h:=h4 e1 e2 e3
    cbv
    (refine rC ?_;cbv)
    exact zV h.symm
   ·have h:=h3 e1 e2 e3
    cbv
    (refine rC ?_;cbv)
    exact zV h.symm
  ·have h:=h2 e1 e2
   cbv
   (refine rC ?_;cbv)
   exact zV h.symm
 ·have h:=h1 e1
  cbv
  (refine rC ?_;cbv)
  exact zV h.symm
theorem zQE (l:List Mult)(hl:Msz (2^32) l):zE 70 [mlv l] (.bool (fun _=>v6 none l)):=by
 refine sF Tryz.f70 ?_
 have hll:=hl.len
 have hls:=hl.sz
 generalize hr:v6 none l=r
 cbv
 refine zY (σ:=Nat × Option Row) (fun s=>⟨[(0,mlv l),(3,.int .i64 (fun _=>(s.1:Int)))],[]⟩)
  (fun s=>s.1≤l.length∧r=v6 s.2 (l.drop s.1)∧(s.1=0→s.2=none)∧(s.1≠0→∃ u,l[s.1 - 1]?=some u∧s.2=some u.row)) (fun s=>l.length - s.1)
  (0,none) ⟨om,hr.symm,fun _=>rfl,fun h=>absurd rfl h⟩ (.le ?_ ?_ rfl) ?_
 ·cbv
  exact okA
 ·cbv
 clear hr
 intro s hs
 obtain⟨h1,hv,h3,h4⟩:=hs
 generalize s.1=i at *
 generalize s.2=p at *
 cbv
 refine zH (fun h5=>?_) (fun h5=>?_)
 ·have hlt:i<l.length:=by rw[zA] at h5;(try dsimp only [zG] at *);omega
  obtain⟨t,ht⟩:=yA hlt
  have idx:∀ {K:List PV→Prop},K (mc t)→IdxOk 7 (fun _=>enc mc l) (fun _=>(i:Int)) K:=fun hK=>y5 (l:=l) i rfl hlt yS yO (fun m' hm'=>by rw[ht] at hm';cases hm';exact hK)
  have htz:=hls t (List.mem_of_getElem? ht)
  have cs:=s35 t.c (by have:=htz.n;omega)
  have cv:=s129 t.c htz
  have hd:l.drop i=t::l.drop (i+1):=zZ ht
  have hvn:(¬ 0<yB t.c.q→r=false):=fun h=>by rw[hv,hd];unfold v6;rw[decide_eq_false h];rfl
  have hvo:t.c.ok=false→r=false:=fun h=>by rw[hv,hd];unfold v6;rw[h];simp
  have hv0:0<yB t.c.q→t.c.ok=true→p=none→r=v6 (some t.row) (l.drop (i+1)):=fun h g e=>by
   rw[hv,hd,e]
   show (decide (0<yB t.c.q) && (t.c.ok && (true && v6 (some t.row) (l.drop (i+1)))))=_
   rw[decide_eq_true h,g];simp
  have hv1:∀ w,0<yB t.c.q→t.c.ok=true→p=some w→r=(yF w t.row && v6 (some t.row) (l.drop (i+1))):=fun w h g e=>by
   rw[hv,hd,e,zAK]
   show (decide (0<yB t.c.q) && (t.c.ok && (decide (xP w t.row<0) && v6 (some t.row) (l.drop (i+1)))))=_
   rw[decide_eq_true h,g];simp
  clear hv
  generalize yB t.c.q=sg at *
  generalize t.c.ok=ok at *
  generalize hrest:v6 (some t.row) (l.drop (i+1))=rest at *
  cbv
  refine zO 35 (by cbv) ?_
  cbv
  refine idx ?_
  cbv
  refine dA cv ?_
  cbv
  refine z4 (fun e2=>?_) (fun e2=>?_)
  rotate_left
  ·cbv
   (refine rC ?_;cbv)
   exact zN (hvo e2)
  cbv
  refine idx ?_
  cbv
  refine dA cs ?_
  cbv
  refine zR (fun e1=>?_) (fun e1=>?_)
  ·cbv
   (refine rC ?_;cbv)
   exact zN (hvn (by omega))
  cbv
  refine zR (fun e3=>?_) (fun e3=>?_)
  ·cbv
   obtain⟨u,hu,hu2⟩:=h4 om
   have cc:=zO3 u.row t.row
   have hvv:=hv1 u.row (by omega) e2 hu2
   generalize yF u.row t.row=cr at *
   refine⟨zD om om,y5 (l:=l) (i - 1) om om yS yO (fun u' hu'=>?_)⟩
   obtain rfl:u'=u:=by rw[hu] at hu';exact (Option.some.inj hu').symm
   cbv
   refine idx ?_
   cbv
   refine dA cc ?_
   cbv
   refine zS (fun e4=>?_) (fun e4=>?_)
   ·rw[e4,Bool.true_and] at hvv
    cbv
    exact⟨zD om om,(i+1,some t.row),⟨om,hvv.trans hrest.symm,fun h=>absurd h (by simp),fun _=>⟨_,ht,rfl⟩⟩,om,.le (by cbv;exact⟨lR,zC om,trivial⟩) (by cbv) rfl⟩
   ·cbv
    (refine rC ?_;cbv)
    exact zN (by rw[hvv,e4];rfl)
  ·cbv
   have hvv:=hv0 (by omega) e2 (h3 om)
   exact⟨zD om om,(i+1,some t.row),⟨om,hvv.trans hrest.symm,fun h=>absurd h (by simp),fun _=>⟨_,ht,rfl⟩⟩,om,.le (by cbv;exact⟨lR,zC om,trivial⟩) (by cbv) rfl⟩
 ·have:i=l.length:=by rw[zA] at h5;(try dsimp only [zG] at *);omega
  rw[this,List.drop_length] at hv
  have hv':r=true:=hv
  cbv
  (refine rC ?_;cbv)
  exact yL hv'
def plM (r:Row) (q:Rat):List (Row × Rat)→List (Row × Rat)
 | []=>[(r,q)]
 | t::rest=>if yF t.1 r=true then t::plM r q rest else if t.1=r then (r,t.2+q)::rest else (r,q)::t::rest
def plMq (l:List (Row × Rat)) (r:Row) (q:Rat):List (Row × Rat):=if yB q=0 then l else plM r q l
theorem zQY {l:List (Row × Rat)}{i:Nat}{t:Row × Rat}(h:l[i]?=some t):(mR l)[i]?=some ⟨t.1,zJ t.2⟩:=by unfold mR;rw[List.getElem?_map,h];rfl
theorem zNX (l:List (Row × Rat))(n:Nat):(mR l).take n=mR (l.take n):=by simp [mR,List.map_take]
structure Mfit (k:Nat) (l:List (Row × Rat)):Prop where
 len:l.length<2^37
 fit:∀ t,t∈l→Fits k t.2
theorem iD {α:Type}{p:α→List PV}{n:Nat}(hn:∀ a,(p a).length=n)(l:List α)(a b:Nat):Wid n (fun _=>((enc p l).take a).drop b):=⟨fun e he=>(xN hn l).h e (List.mem_of_mem_take (List.mem_of_mem_drop he))⟩
theorem sPlM (l:List (Row × Rat))(r:Row)(c:R)(hl:Mfit (2^30) l)(hc:c.sz (2^30)):zE 69 [mlv (mR l),rwv r,rv c] (mlv (mR (plMq l r c.q))):=by
 refine sF Tryz.f69 ?_
 have cs:=s35 c (by have:=hc.n;omega)
 have cc:=s47 c (hc.mono (by decide))
 have hadd:∀ t,t∈l→zE 52 [rv (zJ t.2),rv c] (rv (zJ (t.2+c.q))):=fun t ht=>by
  have:=s44 (zJ t.2) c ((z8 (hl.fit t ht)).mono (by decide)) (hc.mono (by decide))
  rw[z9] at this
  exact this
 have hll:=hl.len
 have d0:yB c.q=0→plMq l r c.q=l:=fun h=>if_pos h
 have d1:¬ yB c.q=0→plMq l r c.q=plM r c.q l:=fun h=>if_neg h
 have hless:∀ t:Row × Rat,zE 135 [rwv t.1,rwv r] (.bool (fun _=>yF t.1 r)):=fun t=>zO3 t.1 r
 have hpn:plM r c.q []=[(r,c.q)]:=rfl
 have hpc:∀ t rest,plM r c.q (t::rest)=if yF t.1 r=true then t::plM r c.q rest else if t.1=r then (r,t.2+c.q)::rest else (r,c.q)::t::rest:=fun _ _=>rfl
 obtain⟨G,hG⟩:∃ G,plM r c.q=G:=⟨_,rfl⟩
 rw[hG] at d1 hpn hpc
 generalize plMq l r c.q=M at *
 generalize yB c.q=sg at *
 generalize hcq:c.q=q at *
 clear hG hl hc hcq
 cbv
 refine cA cs ?_
 cbv
 refine zH (fun e0=>?_) (fun e0=>?_)
 ·have hM:=d0 e0
  cbv
  subst hM
  (refine rC ?_;cbv)
  exact lR
 have hM:=d1 e0
 clear d0 d1 cs
 cbv
 refine zY (σ:=Nat) (fun i=>⟨[(0,mlv (mR l)),(4,.ptr 4 0),(5,.ptr 5 0),(7,.int .i64 (fun _=>(i:Int)))],[(4,.box (rwc r)),(5,.box [.bool (fun _=>c.neg),nat c.num,nat c.den])]⟩)
  (fun i=>i≤l.length∧M=l.take i++G (l.drop i)) (fun i=>l.length - i) 0 ⟨om,by rw[hM];rfl⟩ (.le ?_ ?_ rfl) ?_
 ·cbv
  exact okA
 ·cbv
  exact okA
 clear hM
 intro i hi
 obtain⟨h1,h2⟩:=hi
 have hml:=x6 l
 have wid:=xN yO (mR (l.take i))
 have wid2:=xN yO (mR l)
 by_cases hlt:i<l.length
 ·obtain⟨t,ht⟩:=yA hlt
  have hmem:=List.mem_of_getElem? ht
  have hdr:=zZ ht
  rw[hdr,hpc] at h2
  have k1:yF t.1 r=true→M=l.take (i+1)++G (l.drop (i+1)):=fun h=>by
   rw[h2,if_pos h,List.take_add_one,ht];simp
  have k2:yF t.1 r=false→t.1=r→M=l.take i++([(r,t.2+q)]++l.drop (i+1)):=fun h g=>by
   rw[h2,if_neg (by rw[h];decide),if_pos g];rfl
  have k3:yF t.1 r=false→¬ t.1=r→M=l.take i++([(r,q)]++l.drop i):=fun h g=>by
   rw[h2,if_neg (by rw[h];decide),if_neg g,hdr];rfl
  clear h2
  have cl:=hless t
  have ca:=hadd t hmem
  obtain⟨Y,hY⟩:∃ Y,zJ t.2=Y:=⟨_,rfl⟩
  have hmt:=zQY ht
  rw[hY] at ca hmt
  have idx:∀ {K:List PV→Prop},K (mc ⟨t.1,Y⟩)→IdxOk 7 (fun _=>enc mc (mR l)) (fun _=>(i:Int)) K:=fun hK=>y5 (l:=mR l) i rfl (by omega) yS yO (fun m' hm'=>by rw[hmt] at hm';cases hm';exact hK)
  generalize yF t.1 r=lt at *
  clear hless hadd hpc hpn
  cbv
  refine zO 13 (by cbv) ?_
  cbv
  refine xR (by rw[zA];(try dsimp only [zG] at *);omega) ?_
  cbv
  refine idx ?_
  cbv
  refine dA cl ?_
  cbv
  refine zS (fun e1=>?_) (fun e1=>?_)
  ·have hk:=k1 e1
   cbv
   exact⟨zD om om,i+1,⟨om,hk⟩,om,.le (by cbv;exact⟨lR,lR,lR,zC om,trivial⟩) (by cbv;exact okA) rfl⟩
  have k2':=k2 e1
  have k3':=k3 e1
  clear k1 k2 k3 cl
  cbv
  refine⟨w4 om om (by rw[zA];(try dsimp only [zG] at *);omega),xN yO _,?_⟩
  refine k7 uW rfl rfl (iD yO _ _ _) (z7 (by simp <;> omega) (by simp [zA,hml];(try dsimp only [zG] at *);omega)) rfl ?_
  cbv
  refine zO 13 (by cbv) ?_
  cbv
  refine xR (by rw[zA];(try dsimp only [zG] at *);omega) ?_
  cbv
  refine idx ?_
  cbv
  refine zHE ?_
  cbv
  refine zH (fun e2=>?_) (fun e2=>?_)
  ·have hk:=k2' e2
   have hX:mR [(r,t.2+q)]=[⟨r,zJ (t.2+q)⟩]:=rfl
   generalize zJ (t.2+q)=X at *
   cbv
   refine zO 11 (by cbv) ?_
   cbv
   refine idx ?_
   cbv
   refine dA ca ?_
   cbv
   refine wD uW rfl rfl rfl (by simp) rfl ⟨by simp [zQ,yW]⟩ (z7 (by simp [zQ] <;> omega) (by simp [zQ,zA,hml];(try dsimp only [zG] at *);omega)) rfl ?_
   cbv
   refine⟨zD om om,?_⟩
   cbv
   refine⟨w4 om (by rw[zA];(try dsimp only [zG] at *);omega) (by rw[zA];(try dsimp only [zG] at *);omega),xN yO _,?_⟩
   refine wD uW rfl rfl rfl (by simp) rfl (iD yO _ _ _) (z7 (by simp [zQ] <;> omega) (by simp [zQ,zA,hml];(try dsimp only [zG] at *);omega)) rfl ?_
   cbv
   refine rP _ (.trans (.le (ps':=⟨[(6,.osl 71 7 (fun _=>0) (fun _=>M.length))],[(71,.arr 7 (fun _=>enc mc (mR M)))]⟩) ?_ ?_ rfl) (.frz 71 rfl rfl ?_ ?_)) rfl ?_
   ·cbv;exact⟨z0 rfl (by rw[hk];simp [zQ,zA,hml];(try dsimp only [zG] at *);omega),trivial⟩
   ·cbv
    refine⟨zF ?_,trivial⟩
    rw[hk,aU,aU,←yH,←yH,hX]
    simp [enc,mR,List.map_take,List.map_drop,List.take_of_length_le,zQ]
    rfl
   ·cbv;exact⟨zX (by simp [zA,x6]),trivial⟩
   ·exact trivial
   ·cbv;exact zP (List.take_of_length_le (by simp [zA,x6]))
  ·have hk:=k3' e2
   have hX:mR [(r,q)]=[⟨r,zJ q⟩]:=rfl
   generalize zJ q=X at *
   cbv
   refine zO 6 (by cbv) ?_
   cbv
   refine dA cc ?_
   cbv
   refine wD uW rfl rfl rfl (by simp) rfl ⟨by simp [zQ,yW]⟩ (z7 (by simp [zQ] <;> omega) (by simp [zQ,zA,hml];(try dsimp only [zG] at *);omega)) rfl ?_
   cbv
   refine⟨w4 om (by rw[zA];(try dsimp only [zG] at *);omega) (by rw[zA];(try dsimp only [zG] at *);omega),xN yO _,?_⟩
   refine wD uW rfl rfl rfl (by simp) rfl (iD yO _ _ _) (z7 (by simp [zQ] <;> omega) (by simp [zQ,zA,hml];(try dsimp only [zG] at *);omega)) rfl ?_
   cbv
   refine rP _ (.trans (.le (ps':=⟨[(6,.osl 71 7 (fun _=>0) (fun _=>M.length))],[(71,.arr 7 (fun _=>enc mc (mR M)))]⟩) ?_ ?_ rfl) (.frz 71 rfl rfl ?_ ?_)) rfl ?_
   ·cbv;exact⟨z0 rfl (by rw[hk];simp [zQ,zA,hml];(try dsimp only [zG] at *);omega),trivial⟩
   ·cbv
    refine⟨zF ?_,trivial⟩
    rw[hk,aU,aU,←yH,←yH,hX]
    simp [enc,mR,List.map_take,List.map_drop,List.take_of_length_le,zQ]
    rfl
   ·cbv;exact⟨zX (by simp [zA,x6]),trivial⟩
   ·exact trivial
   ·cbv;exact zP (List.take_of_length_le (by simp [zA,x6]))
 ·have hi':i=l.length:=by omega
  have hk:M=l.take i++([(r,q)]++l.drop i):=by rw[h2,hi',List.drop_length,hpn];simp
  have hX:mR [(r,q)]=[⟨r,zJ q⟩]:=rfl
  generalize zJ q=X at *
  clear h2 hpn hpc hless hadd
  cbv
  refine zO 13 (by cbv) ?_
  cbv
  refine zW (by rw[zA];(try dsimp only [zG] at *);omega) ?_
  cbv
  refine⟨w4 om om (by rw[zA];(try dsimp only [zG] at *);omega),xN yO _,?_⟩
  refine k7 uW rfl rfl (iD yO _ _ _) (z7 (by simp <;> omega) (by simp [zA,hml];(try dsimp only [zG] at *);omega)) rfl ?_
  cbv
  refine zO 13 (by cbv) ?_
  cbv
  refine zW (by rw[zA];(try dsimp only [zG] at *);omega) ?_
  cbv
  refine zO 6 (by cbv) ?_
  cbv
  refine dA cc ?_
  cbv
  refine wD uW rfl rfl rfl (by simp) rfl ⟨by simp [zQ,yW]⟩ (z7 (by simp [zQ] <;> omega) (by simp [zQ,zA,hml];(try dsimp only [zG] at *);omega)) rfl ?_
  cbv
  refine⟨w4 om (by rw[zA];(try dsimp only [zG] at *);omega) (by rw[zA];(try dsimp only [zG] at *);omega),xN yO _,?_⟩
  refine wD uW rfl rfl rfl (by simp) rfl (iD yO _ _ _) (z7 (by simp [zQ] <;> omega) (by simp [zQ,zA,hml];(try dsimp only [zG] at *);omega)) rfl ?_
  cbv
  refine rP _ (.trans (.le (ps':=⟨[(6,.osl 71 7 (fun _=>0) (fun _=>M.length))],[(71,.arr 7 (fun _=>enc mc (mR M)))]⟩) ?_ ?_ rfl) (.frz 71 rfl rfl ?_ ?_)) rfl ?_
  ·cbv;exact⟨z0 rfl (by rw[hk];simp [zQ,zA,hml];(try dsimp only [zG] at *);omega),trivial⟩
  ·cbv
   refine⟨zF ?_,trivial⟩
   rw[hk,aU,aU,←yH,←yH,hX]
   simp [enc,mR,List.map_take,List.map_drop,List.take_of_length_le,zQ]
   rfl
  ·cbv;exact⟨zX (by simp [zA,x6]),trivial⟩
  ·exact trivial
  ·cbv;exact zP (List.take_of_length_le (by simp [zA,x6]))
theorem lT (r:Row)(q:Rat):∀ l,(plM r q l).length≤l.length+1
 | []=>by simp [plM]
 | t::rest=>by
  have:=lT r q rest
  unfold plM
  split
  ·simp;omega
  ·split <;> simp
theorem zG0 {r:Row}{q:Rat}{k m:Nat}(hq:Fits m q):∀ {l:List (Row × Rat)},(∀ t,t∈l→Fits k t.2)→∀ t,t∈plM r q l→Fits (k+m+1) t.2
 | [],_,t,h=>by
  have:t=(r,q):=by simpa [plM] using h
  rw[this];exact hq.mono (by omega)
 | a::rest,hl,t,h=>by
  unfold plM at h
  split at h
  ·rcases List.mem_cons.1 h with rfl | h
   ·exact (hl _ List.mem_cons_self).mono (by omega)
   ·exact zG0 hq (fun u hu=>hl u (List.mem_cons_of_mem _ hu)) t h
  ·split at h
   ·rcases List.mem_cons.1 h with rfl | h
    ·exact (vI (hl a List.mem_cons_self) hq).mono (by omega)
    ·exact (hl t (List.mem_cons_of_mem _ h)).mono (by omega)
   ·rcases List.mem_cons.1 h with rfl | h
    ·exact hq.mono (by omega)
    ·exact (hl t h).mono (by omega)
theorem zDR {l:List (Row × Rat)}{r:Row}{q:Rat}{k m:Nat}(hq:Fits m q)(hl:∀ t,t∈l→Fits k t.2):∀ t,t∈plMq l r q→Fits (k+m+1) t.2:=fun t h=>by
 unfold plMq at h
 split at h
 ·exact (hl t h).mono (by omega)
 ·exact zG0 hq hl t h
theorem zDQ (l:List (Row × Rat))(r:Row)(q:Rat):(plMq l r q).length≤l.length+1:=by
 unfold plMq
 split
 ·omega
 ·exact lT r q l
theorem zJ5:Pg.funcs[56]?=some Tryz.f56:=by rw[jB];rfl
def exU:F:=F.sub (F.var 0) (F.num 1)
def exS:Scp:=⟨⟨⟨1,[fA exU],[fA (F.var 1)]⟩,⟨[R0],[zJ 3],[]⟩,fA (F.var 1)⟩,[],[]⟩
def exT:Scp:=⟨exS.q,[⟨3,0,zJ 4⟩],[]⟩
def m9:List Mult:=[⟨⟨1,0,0,0⟩,zJ 1⟩]
def exHi:List Mult:=[⟨⟨2,0,0,0⟩,zJ 1⟩]
def pG:List Mult:=[⟨⟨2,0,0,0⟩,zJ 1⟩,⟨⟨4,0,0,0⟩,zJ 1⟩]
theorem exA:exS.lemB ⟨0,false,zJ (-1),m9⟩=true:=by decide +kernel
theorem exB:exS.lemB ⟨0,false,R0,m9⟩=false:=by decide +kernel
theorem exC:exS.lemB ⟨0,true,zJ 2,exHi⟩=true:=by decide +kernel
theorem exR:exT.refutes pG=true:=by decide +kernel
theorem exN:exS.refutes m9=false:=by decide +kernel
theorem exK:v6 none pG=true:=by decide +kernel
theorem exSc:exT.scopeB=true:=by decide +kernel
theorem zF2:(zJ 1).sz (2^20):=by have:=bN 1 (by decide) (by decide);exact this.mono (by decide)
theorem zFO (z:Int)(h1:-1000≤z)(h2:z≤1000):(zJ (z:Rat)).sz (2^20):=(bN z h1 h2).mono (by decide)
theorem zMM {k:Nat}:R0.sz k:=⟨Nat.zero_le _,Nat.zero_le _⟩
theorem zRE:exU.fl (2^20) 1:=((w7 0).sub (wH fits_one)).mono (by decide) (by decide)
theorem nX {f:F}{k n:Nat}(h:f.fl k n)(hn:n<2^38):(fA f).sz k:=(h.fit hn).fA
theorem zHD:(F.var 1).fl (2^20) 1:=(w7 1).mono (by decide) (by decide)
theorem zLU:exS.q.sz (2^20) where
 g:=⟨⟨by show 1<_;decide,fun a ha=>by
   have:a=fA exU:=by simpa [exS] using ha
   rw[this];exact nX zRE (by decide)⟩,⟨by show 1<_;decide,fun a ha=>by
   have:a=fA (F.var 1):=by simpa [exS] using ha
   rw[this];exact nX zHD (by decide)⟩⟩
 r:=⟨⟨by show 1<_;decide,fun a ha=>by
   have:a=R0:=by simpa [exS] using ha
   rw[this];exact zMM⟩,⟨by show 1<_;decide,fun a ha=>by
   have:a=zJ 3:=by simpa [exS] using ha
   rw[this];exact zFO 3 (by decide) (by decide)⟩,⟨by show 0<_;decide,fun a ha=>absurd ha (by simp [exS])⟩⟩
 goal:=nX zHD (by decide)
theorem zC4:exS.sz (2^20):=⟨zLU,⟨by show 0<_;decide,fun a ha=>absurd ha (by simp [exS])⟩,⟨by show 0<_;decide,fun a ha=>absurd ha (by simp [exS]),fun a ha=>absurd ha (by simp [exS])⟩⟩
theorem zLT:exT.sz (2^20):=⟨zLU,⟨by show 1<_;decide,fun a ha=>by
  have:a=⟨3,0,zJ 4⟩:=by simpa [exT] using ha
  rw[this];exact zFO 4 (by decide) (by decide)⟩,⟨by show 0<_;decide,fun a ha=>absurd ha (by simp [exT]),fun a ha=>absurd ha (by simp [exT])⟩⟩
theorem zB4:Msz (2^20) m9:=⟨by show 1<_;decide,fun a ha=>by
 have:a=⟨⟨1,0,0,0⟩,zJ 1⟩:=by simpa [m9] using ha
 rw[this];exact zF2⟩
theorem zOD:Msz (2^20) exHi:=⟨by show 1<_;decide,fun a ha=>by
 have:a=⟨⟨2,0,0,0⟩,zJ 1⟩:=by simpa [exHi] using ha
 rw[this];exact zF2⟩
theorem exBoth_sz:Msz (2^20) pG:=⟨by show 2<_;decide,fun a ha=>by
 have:a=⟨⟨2,0,0,0⟩,zJ 1⟩∨a=⟨⟨4,0,0,0⟩,zJ 1⟩:=by simpa [pG] using ha
 rcases this with h | h <;> (rw[h];exact zF2)⟩
theorem zJP:zE 60 [] (sv exS):=by
 refine sF Tryz.f60 ?_
 have cv0:=r5 0
 have cv1:=r5 1
 have c1:=s32 1 (by decide) (by decide)
 have c3:=s32 3 (by decide) (by decide)
 have cn:=r6 (zJ ((1:Int):Rat))
 have hcn:∀ v:Int,Cn (F.var v).ts:=fun v=>⟨List.pairwise_singleton _ _,fun t ht=>by
  have:t=(v,1):=by simpa [F.var] using ht
  rw[this];show (1:Rat)≠0;decide⟩
 have cs:=zCS (F.var 0).ts (zJ 0) ⟨[],zJ ((1:Int):Rat)⟩ (hcn 0) Cn.nil ⟨by decide,fun t ht=>((w7 0).t t ht).mono (by decide)⟩ (by rw[kB];exact zMM) ⟨⟨by show 0<_;decide,fun _ h=>absurd h (by simp)⟩,(zFO 1 (by decide) (by decide)).mono (by decide)⟩ (by show 1+0<2^37;decide)
 rw[z9] at cs
 have e1:(A.f ⟨[],zJ ((1:Int):Rat)⟩)=F.num 1:=by show (⟨[],(zJ ((1:Int):Rat)).q⟩:F)=_;rw[z9];rfl
 rw[e1] at cs
 have e2:F.sub ⟨(F.var 0).ts,0⟩ (F.num 1)=exU:=rfl
 rw[e2] at cs
 have cs':zE 124 [av (fA (F.var 0)),av ⟨[],zJ ((1:Int):Rat)⟩] (av (fA exU)):=cs
 have es:sv exS=.agg [.int .i64 (fun _=>1),alv [fA exU],alv [fA (F.var 1)],rlv [R0],rlv [zJ ((3:Int):Rat)],alv [],tsv (fA (F.var 1)).ts,.bool (fun _=>(fA (F.var 1)).c.neg),nat (fA (F.var 1)).c.num,nat (fA (F.var 1)).c.den,dlv [],llv []]:=rfl
 rw[es]
 clear es e1 e2 cs hcn
 dsimp only [fv] at cv0 cv1
 generalize zJ ((3:Int):Rat)=T at *
 generalize zJ ((1:Int):Rat)=O at *
 generalize fA (F.var 0)=V0 at *
 generalize fA (F.var 1)=V1 at *
 generalize fA exU=U at *
 cbv
 refine cA cv0 ?_
 cbv
 refine cA c1 ?_
 cbv
 refine cA cn ?_
 cbv
 refine yX rfl (by exact⟨okA,⟨zP rfl,lR,lR,lR,trivial⟩,trivial⟩) cs' rfl ?_
 cbv
 refine u7 6 (by cbv) (by cbv) ?_
 cbv
 refine dA cv1 ?_
 cbv
 refine zO 9 (by cbv) ?_
 cbv
 refine dA c3 ?_
 cbv
 refine dA cv1 ?_
 cbv
 (refine rC ?_;cbv)
 exact⟨lR,zP rfl,zP rfl,zP rfl,zP rfl,xC rfl,lR,lR,lR,lR,xC rfl,xC rfl,trivial⟩
theorem zEW {b:Bool}{A B:Unit→Prop}(h:b=true)(h1:A ()):Br (fun _=>b) A B:=z4 (fun _=>h1) (fun g=>by rw[h] at g;cases g)
theorem zPE {b:Bool}{A B:Unit→Prop}(h:b=false)(h1:B ()):Br (fun _=>b) A B:=z4 (fun g=>by rw[h] at g;cases g) (fun _=>h1)
theorem zC5 {b:Bool}{A B:(Exit→PS→Prop)→Prop}{Q:Exit→PS→Prop}(h:b=true)(h1:A Q):Cut (fun _=>b) A B Q:=zS (fun _=>h1) (fun g=>by rw[h] at g;cases g)
theorem zRM {b:Bool}{A B:(Exit→PS→Prop)→Prop}{Q:Exit→PS→Prop}(h:b=false)(h1:B Q):Cut (fun _=>b) A B Q:=zS (fun g=>by rw[h] at g;cases g) (fun _=>h1)
theorem zFZ:zE 13 [] (.bool (fun _=>true)):=by
 refine sF Tryz.f13 ?_
 have ce:=zJP
 have c1:=s32 1 (by decide) (by decide)
 have cm1:=s32 (-1) (by decide) (by decide)
 have c2:=s32 2 (by decide) (by decide)
 have c4:=s32 4 (by decide) (by decide)
 have ca:=p8 exS ⟨0,false,zJ (-1),m9⟩ zC4 (zFO (-1) (by decide) (by decide)) zB4 (by decide)
 have cb:=p8 exS ⟨0,false,R0,m9⟩ zC4 zMM zB4 (by decide)
 have cc:=p8 exS ⟨0,true,zJ 2,exHi⟩ zC4 (zFO 2 (by decide) (by decide)) zOD (by decide)
 have cr:=bL exT pG zLT exBoth_sz (by decide)
 have cn:=bL exS m9 zC4 zB4 (by decide)
 have ck:=zK9 pG (exBoth_sz.mono (by decide))
 have csc:=i6 exT zLT (fun m hm=>absurd hm (by simp [exT]))
 rw[exA] at ca
 rw[exB] at cb
 rw[exC] at cc
 rw[exR] at cr
 rw[exN] at cn
 rw[exK] at ck
 rw[exSc] at csc
 have eT:sv exT=.agg [.int .i64 (fun _=>exS.q.g.n),alv exS.q.g.us,alv exS.q.g.os,rlv exS.q.r.lo,rlv exS.q.r.hi,alv exS.q.r.rows,tsv exS.q.goal.ts,.bool (fun _=>exS.q.goal.c.neg),nat exS.q.goal.c.num,nat exS.q.goal.c.den,.sl (fun _=>[yW [.int .i64 (fun _=>3),.int .i64 (fun _=>0),.bool (fun _=>(zJ ((4:Int):Rat)).neg),nat (zJ ((4:Int):Rat)).num,nat (zJ ((4:Int):Rat)).den]]),llv []]:=rfl
 rw[eT] at cr csc
 clear eT
 have eLo:mlv m9=.sl (fun _=>[yW [.int .i64 (fun _=>1),.int .i64 (fun _=>0),.int .i64 (fun _=>0),.int .i64 (fun _=>0),.bool (fun _=>(zJ ((1:Int):Rat)).neg),nat (zJ ((1:Int):Rat)).num,nat (zJ ((1:Int):Rat)).den]]):=rfl
 have eHi:mlv exHi=.sl (fun _=>[yW [.int .i64 (fun _=>2),.int .i64 (fun _=>0),.int .i64 (fun _=>0),.int .i64 (fun _=>0),.bool (fun _=>(zJ ((1:Int):Rat)).neg),nat (zJ ((1:Int):Rat)).num,nat (zJ ((1:Int):Rat)).den]]):=rfl
 have eBo:mlv pG=.sl (fun _=>[yW [.int .i64 (fun _=>2),.int .i64 (fun _=>0),.int .i64 (fun _=>0),.int .i64 (fun _=>0),.bool (fun _=>(zJ ((1:Int):Rat)).neg),nat (zJ ((1:Int):Rat)).num,nat (zJ ((1:Int):Rat)).den],yW [.int .i64 (fun _=>4),.int .i64 (fun _=>0),.int .i64 (fun _=>0),.int .i64 (fun _=>0),.bool (fun _=>(zJ ((1:Int):Rat)).neg),nat (zJ ((1:Int):Rat)).num,nat (zJ ((1:Int):Rat)).den]]):=rfl
 have fa:lv' ⟨0,false,zJ (-1),m9⟩=.agg [.int .i64 (fun _=>0),.bool (fun _=>false),.bool (fun _=>(zJ ((-1:Int):Rat)).neg),nat (zJ ((-1:Int):Rat)).num,nat (zJ ((-1:Int):Rat)).den,mlv m9]:=rfl
 have fb:lv' ⟨0,false,R0,m9⟩=.agg [.int .i64 (fun _=>0),.bool (fun _=>false),.bool (fun _=>false),nat [],nat [],mlv m9]:=rfl
 have fc:lv' ⟨0,true,zJ 2,exHi⟩=.agg [.int .i64 (fun _=>0),.bool (fun _=>true),.bool (fun _=>(zJ ((2:Int):Rat)).neg),nat (zJ ((2:Int):Rat)).num,nat (zJ ((2:Int):Rat)).den,mlv exHi]:=rfl
 rw[fa,eLo] at ca
 rw[fb,eLo] at cb
 rw[fc,eHi] at cc
 rw[eBo] at cr ck
 rw[eLo] at cn
 have eT0:exS.path=[]:=rfl
 have eT1:exS.lems=[]:=rfl
 clear fa fb fc eLo eHi eBo
 generalize zJ ((1:Int):Rat)=O at *
 generalize zJ ((-1:Int):Rat)=N at *
 generalize zJ ((2:Int):Rat)=T at *
 generalize zJ ((4:Int):Rat)=Q at *
 generalize exS=S at *
 cbv
 refine cA ce ?_
 cbv
 refine kZ [0,1] [1] rfl rfl okA (c1) rfl ?_
 cbv
 refine zO 10 (by cbv) ?_
 cbv
 refine a9 6 [1,2,3,4] [1,2] rfl (by cbv) ?_
 cbv
 refine dA cm1 ?_
 cbv
 refine dA ca ?_
 cbv
 refine kZ [1,2,3,4,5,25,27] [1,2] rfl rfl okA (cb) rfl ?_
 cbv
 refine a9 6 [1,2,3,4,5,6] [1,2] rfl (by cbv) ?_
 cbv
 refine dA c2 ?_
 cbv
 refine dA cc ?_
 cbv
 refine kZ [1,2,3,5,6,7,8] [1,2,8] rfl rfl okA (c4) rfl ?_
 cbv
 refine zEW rfl ?_
 cbv
 refine zPE rfl ?_
 cbv
 refine zEW rfl ?_
 cbv
 refine kZ [1,3,8,9,54,55,56] [1,8] rfl rfl (by exact⟨⟨lR,lR,lR,lR,lR,lR,lR,lR,lR,lR,zP rfl,zP (by rw[eT1]),trivial⟩,lR,trivial⟩) cr rfl ?_
 cbv
 refine zEW rfl ?_
 cbv
 refine kZ [1,3,8,9,59,60,61] [8] rfl rfl okA (cn) rfl ?_
 cbv
 refine zPE rfl ?_
 cbv
 refine kZ [8,9,65,66] [8] rfl rfl okA (ck) rfl ?_
 cbv
 refine zEW rfl ?_
 cbv
 refine kZ [69,70] [] rfl rfl (by exact⟨⟨lR,lR,lR,lR,lR,lR,lR,lR,lR,lR,zP rfl,zP (by rw[eT1]),trivial⟩,trivial⟩) csc rfl ?_
 cbv
 (refine rC ?_;cbv)
 exact lR
end Go.Proofs.YtgcpehdkdnkgeaaGreat
