/- A part of the proof: EwB, LyA, LyB. -/
import Derived.Test.YtgcpehdkdnkgeaaGreatX39
import Derived.Test.YtgcpehdkdnkgeaaGreatX38
import Derived.Test.YtgcpehdkdnkgeaaGreatX23
import Derived.Test.YtgcpehdkdnkgeaaGreatX28
import Derived.Test.YtgcpehdkdnkgeaaGreatX30
import Derived.Test.YtgcpehdkdnkgeaaGreatX35
import Derived.Test.YtgcpehdkdnkgeaaGreatX37
set_option linter.all false
namespace Go.Proofs.YtgcpehdkdnkgeaaGreat
open Go
set_option maxRecDepth 100000
set_option maxHeartbeats 4000000
theorem zLS (g:Reg)(hg:g.sz (2^34)):zB 165 [rgv g] (.bool (fun _=>g.valid (g.lo.length:Int))):=by
 refine sF Tryz.f165 ?_
 have c:=zD5 g (g.lo.length:Int) hg
 generalize g.valid (g.lo.length:Int)=b at *
 obtain⟨lo,hi,rows⟩:=g
 cbv
 refine yQ rfl (by exact⟨okA,zE (by rw[zA]),trivial⟩) c rfl ?_
 cbv
 (refine rC ?_;cbv)
 exact lR
theorem zNZ (p:A)(X:List R)(y:R)(z:Int)(ce:zB 167 [av p,rlv X] (.tup [rv y,.int .i64 (fun _=>0)]))(cs:zB 77 [rv y] (.int .i64 (fun _=>z))):zB 166 [.agg (ac p),.dptr [rlv X] 0] (.bool (fun _=>decide (z<0))):=by
 refine sF Tryz.f166 ?_
 obtain⟨pt,pc⟩:=p
 obtain⟨y1,y2,y3⟩:=y
 cbv
 refine cA ce ?_
 cbv
 refine cA cs ?_
 cbv
 (refine rC ?_;cbv)
 exact lR
theorem zHZ:Pg.funcs[99]?=some Tryz.f99:=by rw[u7];rfl
theorem zQ1 (x:FReg)(l:List Rat){n:Nat}(hx:x.small n)(hv:x.g.valid (n:Int)=true)(hz:x.g.sz (2^31))(hw:∀ f,f∈x.rows→f.wf (n:Int))(hl:l.length=n)(hn:n≤3){m:Nat}(hm2:m≤2^10)(hf:∀ q,q∈l→Fits m q) :
  zB 99 [rgv x.g,rlv (l.map zC)] (.bool (fun _=>l6 x l)):=by
 refine xZ zHZ rfl rfl rfl rfl rfl ?_
 have co:=zLS x.g (hz.mono (by decide))
 have hlo:x.g.lo.length=n:=by show (List.map _ _).length=n;rw[List.length_map];exact hx.bs
 rw[hlo,hv] at co
 have hbl:=hx.bs
 generalize hres:l6 x l=res
 have r0:res=(inB x.bs l && aQ x.rows (xr l)):=hres.symm
 have facts:∀ i,i<n→∃ (q lo hi:R) (z1 z2:Int),(l.map zC)[i]?=some q∧(x.bs.map fun b=>zC b.1)[i]?=some lo∧(x.bs.map fun b=>zC b.2)[i]?=some hi∧zB 143 [rv q,rv lo] (.int .i64 (fun _=>z1))∧zB 143 [rv q,rv hi] (.int .i64 (fun _=>z2)) ∧
   (¬ (0≤z1∧z2≤0)→res=false)∧((0≤z1∧z2≤0)→∀ b q,x.bs[i]?=some b→l[i]?=some q→0≤y7 q b.1∧y7 q b.2≤0):=fun i hi=>by
  obtain⟨b,hb⟩:=zS (l:=x.bs) (i:=i) (by omega)
  obtain⟨q,hq⟩:=zS (l:=l) (i:=i) (by omega)
  obtain⟨f1,f2⟩:=hx.bf b (List.mem_of_getElem? hb)
  have f3:=hf q (List.mem_of_getElem? hq)
  have c1:=s165 (zC q) (zC b.1) ((zU f3).mono (by omega)) ((zU f1).mono (by decide))
  have c2:=s165 (zC q) (zC b.2) ((zU f3).mono (by omega)) ((zU f2).mono (by decide))
  rw[zY,zY] at c1 c2
  refine⟨_,_,_,_,_,by rw[List.getElem?_map,hq];rfl,by rw[List.getElem?_map,hb];rfl,by rw[List.getElem?_map,hb];rfl,c1,c2,fun h=>?_,fun h b' q' hb' hq'=>?_⟩
  ·cases hi':inB x.bs l with
   | false=>rw[r0,hi'];rfl
   | true=>exact absurd (mH hi' i b q hb hq) h
  ·rw[hb] at hb'
   rw[hq] at hq'
   cases hb'
   cases hq'
   exact h
 have n2:=hx.rows
 have hany:((x.rows.map fA).any fun p=>decide (yB (p.f.at (xr l))<0))=!(aQ x.rows (xr l)):=by
  unfold aQ
  rw[List.any_map,List.not_all_eq_any_not]
  congr 1
  funext f
  show decide (yB ((fA f).f.at (xr l))<0)=!decide (0≤yB (f.at (xr l)))
  rw[vE]
  by_cases h:0≤yB (f.at (xr l))
  ·rw[decide_eq_true h,decide_eq_false (by omega)];rfl
  ·rw[decide_eq_false h,decide_eq_true (by omega)];rfl
 have ch:=zMX (fun p=>decide (yB (p.f.at (xr l))<0)) (x.rows.map fA) (by rw[List.length_map];omega) 166 [.dptr [rlv (l.map zC)] 0] (fun p hp=>by
  obtain⟨f,hmem,rfl⟩:=List.mem_map.1 hp
  have hwf:=hw f hmem
  rw[←hl] at hwf
  have hfl:f.fl 19 3:=(hx.rf f hmem).mono (by omega) hn
  have ce:=zPN f l hfl hwf hf (by decide) (by omega) (by omega) (by decide) (by omega)
  have cs:=s86 (zC (f.at (xr l))) (by have:=(zU (uQ hfl (gI hwf hf))).n;omega)
  rw[zY] at cs
  have:=zNZ (fA f) _ _ _ ce cs
  rw[vE]
  exact this)
 rw[hany] at ch
 have rt:(∀ i,i<n→∀ b q,x.bs[i]?=some b→l[i]?=some q→0≤y7 q b.1∧y7 q b.2≤0)→res=aQ x.rows (xr l):=fun h1=>by
  rw[r0,zGX fun i b q hb hq=>h1 i (by have:=(List.getElem?_eq_some_iff.1 hb).1;omega) b q hb hq,Bool.true_and]
 generalize aQ x.rows (xr l)=RB at *
 have e:rgv x.g=.agg [rlv (x.bs.map fun b=>zC b.1),rlv (x.bs.map fun b=>zC b.2),alv (x.rows.map fA)]:=rfl
 rw[e] at co ⊢
 have hLl:(x.bs.map fun b=>zC b.1).length=n:=by rw[List.length_map,hbl]
 have hXl:(l.map zC).length=n:=by rw[List.length_map,hl]
 obtain⟨P1,hP1⟩:∃ P:Nat→Prop,∀ i,P i=∀ b q,x.bs[i]?=some b→l[i]?=some q→0≤y7 q b.1∧y7 q b.2≤0:=⟨_,fun _=>rfl⟩
 simp only[←hP1] at facts rt
 clear hx hv hz hw hf e hP1 r0 hres hlo hbl hany
 generalize x.bs.map (fun b=>zC b.1)=LO at *
 generalize x.bs.map (fun b=>zC b.2)=HI at *
 generalize x.rows.map fA=RW at *
 generalize l.map zC=X at *
 cbv
 refine cA co ?_
 cbv
 refine qQ rfl ?_
 cbv
 refine zF (fun e=>?_) (fun e=>(e (by rw[zA,zA];(try dsimp only [zG] at *);omega)).elim)
 cbv
 refine z4 (σ:=Nat) (fun i=>⟨[(2,.ptr 2 0),(3,.ptr 3 0),(18,rlv X),(19,.int .i64 (fun _=>((enc rc X).length:Int))),(20,.int .i64 (fun _=>(i:Int)))],[(2,.box [rlv LO,rlv HI,alv RW]),(3,.box [rlv X])]⟩)
  (fun i=>i≤n∧∀ j,j<i→P1 j) (fun i=>n - i) 0 ⟨Nat.zero_le _,fun j h=>absurd h (by omega)⟩ (wkZ) ?_
 intro i hi'
 obtain⟨hi1,hi2⟩:=hi'
 cbv
 refine zF (fun h=>?_) (fun h=>?_)
 ·have hlt:i<n:=by rw[zA,hXl] at h;(try dsimp only [zG] at *);omega
  obtain⟨q,lo,hi,z1,z2,g1,g2,g3,c1,c2,k1,k2⟩:=facts i hlt
  clear facts rt ch
  cbv
  refine yF g1 yU xE ?_
  cbv
  refine zO 18 (by cbv) ?_
  cbv
  refine yF g2 yU xE ?_
  cbv
  refine dA c1 ?_
  cbv
  refine zR (fun e1=>?_) (fun e1=>?_)
  ·have hr:=k1 (fun h=>by omega)
   cbv
   (refine rC ?_;cbv)
   exact zM hr
  cbv
  refine yF g3 yU xE ?_
  cbv
  refine dA c2 ?_
  cbv
  refine zF (fun e2=>?_) (fun e2=>?_)
  ·have hr:=k1 (fun h=>by omega)
   cbv
   (refine rC ?_;cbv)
   exact zM hr
  have hp:=k2 ⟨by omega,by omega⟩
  cbv
  exact⟨zH om om,i+1,⟨(by show i+1≤n;omega),fun j hj=>by
   by_cases e:j=i
   ·rw[e];exact hp
   ·exact hi2 j (by have:j<i+1:=hj;omega)⟩,(by show n - (i+1)<n - i;omega),wkZ⟩
 have hin:i=n:=by rw[zA,hXl] at h;(try dsimp only [zG] at *);omega
 rw[hin] at hi2
 have hr:=rt hi2
 subst hr
 clear hin hi1 h facts
 cbv
 refine uC (.frz 3 rfl rfl (by repeat' first | exact trivial | apply And.intro) (by repeat' first | exact trivial | apply And.intro)) rfl (by exact⟨lR,⟨rfl,lR,trivial⟩,trivial⟩) ch rfl ?_
 cbv
 (refine rC ?_;cbv)
 exact xX (by cases res <;> rfl)
theorem zN0 (g:Reg)(X:List R)(hz:g.sz (2^34))(h:g.valid (g.lo.length:Int)=false∨X.length≠g.lo.length):zB 99 [rgv g,rlv X] (.bool (fun _=>false)):=by
 refine xZ zHZ rfl rfl rfl rfl rfl ?_
 have co:=zLS g hz
 generalize g.valid (g.lo.length:Int)=b at *
 obtain⟨lo,hi,rows⟩:=g
 dsimp only at h
 cbv
 refine cA co ?_
 cbv
 refine z5 (fun e=>?_) (fun e=>?_)
 ·cbv
  refine zF (fun e'=>?_) (fun e'=>?_)
  ·rw[zA,zA] at e'
   rcases h with h | h
   ·rw[e] at h;cases h
   ·exact absurd e' om
  ·cbv
   (refine rC ?_;cbv)
   exact zM rfl
 ·cbv
  (refine rC ?_;cbv)
  exact zM rfl
theorem zSN (d:Dec)(X P:List R)(b:Bool)(h12:d.k=1∨d.k=2→∃ (i:Nat) (p:R) (z:Int),d.i=(i:Int)∧P[i]?=some p∧zB 77 [rv p] (.int .i64 (fun _=>z))∧(d.k=1→b=decide (0≤z))∧(d.k=2→b=decide (z≤0)))
  (h34:¬ (d.k=1∨d.k=2)→∃ (i:Nat) (q:R) (z:Int),d.i=(i:Int)∧X[i]?=some q∧zB 143 [rv q,rv d.x] (.int .i64 (fun _=>z))∧(d.k=3→b=decide (0≤z))∧(d.k≠3→b=decide (z≤0))):zB 102 [dv d,rlv X,rlv P] (.bool (fun _=>b)):=by
 refine sF Tryz.f102 ?_
 obtain⟨dk,di,dx⟩:=d
 dsimp only at h12 h34
 cbv
 refine zF (fun e1=>?_) (fun e1=>?_)
 ·obtain⟨i,p,z,hi',g1,c1,k1,k2⟩:=h12 (.inl om)
  have hr:=k1 om
  clear h12 h34
  cbv
  refine xC g1 hi' yU xE ?_
  cbv
  refine cA c1 ?_
  cbv
  (refine rC ?_;cbv)
  exact zX hr.symm
 cbv
 refine zF (fun e2=>?_) (fun e2=>?_)
 ·obtain⟨i,p,z,hi',g1,c1,k1,k2⟩:=h12 (.inr om)
  have hr:=k2 om
  clear h12 h34
  cbv
  refine xC g1 hi' yU xE ?_
  cbv
  refine cA c1 ?_
  cbv
  (refine rC ?_;cbv)
  exact zX hr.symm
 obtain⟨i,q,z,hi',g1,c1,k3,k4⟩:=h34 om
 clear h12 h34
 cbv
 refine zF (fun e3=>?_) (fun e3=>?_)
 ·have hr:=k3 om
  cbv
  refine zO 10 (by cbv) ?_
  cbv
  refine xC g1 hi' yU xE ?_
  cbv
  refine dA c1 ?_
  cbv
  (refine rC ?_;cbv)
  exact zX hr.symm
 ·have hr:=k4 om
  cbv
  refine zO 10 (by cbv) ?_
  cbv
  refine xC g1 hi' yU xE ?_
  cbv
  refine dA c1 ?_
  cbv
  (refine rC ?_;cbv)
  exact zX hr.symm
theorem zLR (x:FQry)(d:Dec)(l:List Rat)(hx:x.small)(hok:x.ok)(hd:d.x.sz (2^20))(hl:InpOk x l)(h:d.fits x.q=true):zB 102 [dv d,rlv (l.map zC),rlv ((uJ x.g l).map zC)] (.bool (fun _=>uA x d l)):=by
 have n2:=hx.g.n2
 have hll:=hl.len
 generalize hres:uA x d l=res
 have r0:res=(d.fits x.q && (if d.k=3 then decide (0≤y7 (xr l d.i) d.x.q) else if d.k=4 then decide (y7 (xr l d.i) d.x.q≤0) else if d.k=1 then decide (0≤yB (l4 x l d.i)) else decide (yB (l4 x l d.i)≤0))):=hres.symm
 refine zSN d _ _ res (fun hk=>?_) (fun hk=>?_)
 ·obtain⟨h0,h1,h2⟩:=zGZ h (by omega)
  obtain⟨f,hfi⟩:=zS (l:=x.g.us) (i:=d.i.toNat) (by omega)
  have hi:d.i=((d.i.toNat:Nat):Int):=by omega
  have hg:(uJ x.g l)[d.i.toNat]?=some (f.at (xr (xJ x.g.us l))):=by unfold uJ;rw[List.getElem?_map,hfi];rfl
  have hwf:=hok.us _ f hfi
  have hlt:=(List.getElem?_eq_some_iff.1 hfi).1
  have hvl:(xJ x.g.us l).length=x.g.n+x.g.us.length:=by rw[gK,hll]
  obtain⟨V,Q⟩:=vseq hx.g hok.us hll (m:=20) (by decide) (by decide) hl.fit
  have hft:Fits (2^28) (f.at (xr (xJ x.g.us l))):=by
   have:=uQ (hx.g.uf f (List.mem_of_getElem? hfi)) (gI (l:=xJ x.g.us l) (hwf.mono (by rw[hvl];omega)) (fun q hq=>Q.fit x.g.us.length q (by rw[Q.v9];exact hq)))
   exact this.mono (by decide)
  have c:=s86 (zC (f.at (xr (xJ x.g.us l)))) (Nat.lt_of_le_of_lt (zU hft).n (by decide))
  rw[zY] at c
  have hp:l4 x l d.i=f.at (xr (xJ x.g.us l)):=by unfold l4;rw[hfi];rfl
  refine⟨d.i.toNat,_,_,hi,by rw[List.getElem?_map,hg];rfl,c,fun h3=>?_,fun h4=>?_⟩
  ·rw[r0,h,Bool.true_and,if_neg (by omega),if_neg (by omega),if_pos h3,hp]
  ·rw[r0,h,Bool.true_and,if_neg (by omega),if_neg (by omega),if_neg (by omega),hp]
 ·have hk':d.k=3∨d.k=4:=by
   rcases Decidable.em (d.k=3∨d.k=4) with g | g
   ·exact g
   ·exact absurd (zGZ h g).1 hk
  obtain⟨h1,h2⟩:=zDJ h hk'
  obtain⟨q,hq⟩:=zS (l:=l) (i:=d.i.toNat) (by omega)
  have hi:d.i=((d.i.toNat:Nat):Int):=by omega
  have c:=s165 (zC q) d.x ((zU (hl.fit q (List.mem_of_getElem? hq))).mono (by decide)) (hd.mono (by decide))
  rw[zY] at c
  have hxr:xr l d.i=q:=by rw[hi];exact aV hq
  refine⟨d.i.toNat,zC q,_,hi,by rw[List.getElem?_map,hq];rfl,c,fun h3=>?_,fun h4=>?_⟩
  ·rw[r0,h,Bool.true_and,if_pos h3,hxr]
  ·rw[r0,h,Bool.true_and,if_neg h4,if_pos (by omega),hxr]
theorem zBB:Pg.funcs[44]?=some Tryz.f44:=by rw[u7];rfl
theorem zMY {x:FQry}(hx:x.small)(hok:x.ok):x.g.g.valid=true:=by
 have:=hx.valid hok
 unfold Qry.valid at this
 simp only[Bool.and_eq_true] at this
 exact this.1.1
theorem zJ2 (x:FQry)(d:Dec)(l:List Rat)(hx:x.small)(hok:x.ok)(hd:d.x.sz (2^20))(hl:InpOk x l):zB 44 [qv x.q,dv d,rlv (l.map zC)] (.bool (fun _=>uA x d l)):=by
 refine xZ zBB rfl rfl rfl rfl rfl ?_
 have hv:=hx.valid hok
 have hz:=hx.sz
 have cf:=tN x.q d (hz.mono (by decide)) (hd.mono (by decide))
 rw[hv,Bool.true_and] at cf
 have cp:=zLV x.g l hx.g (zMY hx hok) (hz.g.mono (by decide)) hok.us hl.len (m:=20) (by decide) (by decide) hl.fit
 have ch:=fun h=>zLR x d l hx hok hd hl h
 have f1:d.fits x.q=false→uA x d l=false:=fun h=>by unfold uA;rw[h];rfl
 have hgg:x.g.g=x.q.g:=rfl
 rw[hgg] at cp
 generalize uA x d l=res at *
 generalize (uJ x.g l).map zC=P at *
 generalize l.map zC=X at *
 generalize d.fits x.q=fb at *
 generalize x.q=Q at *
 clear hv hz hx hok hl hgg
 obtain⟨⟨gn,us,os⟩,⟨lo,hi,rows⟩,⟨ts,c⟩⟩:=Q
 obtain⟨dk,di,dx⟩:=d
 cbv
 refine cA cf ?_
 cbv
 refine zV (fun e1=>?_) (fun e1=>?_)
 ·have ch':=ch e1
  cbv
  refine cA cp ?_
  cbv
  refine xM rfl ?_
  cbv
  refine cA ch' ?_
  cbv
  (refine rC ?_;cbv)
  exact lR
 ·have hr:=f1 e1
  cbv
  (refine rC ?_;cbv)
  exact zM hr
theorem zIL (q:Qry)(d:Dec)(X:List R)(hz:q.sz (2^31))(hd:d.x.sz (2^20))(h:(X.length:Int)≠q.g.n)(hX:X.length<2^40):zB 44 [qv q,dv d,rlv X] (.bool (fun _=>false)):=by
 refine xZ zBB rfl rfl rfl rfl rfl ?_
 have cf:=tN q d (hz.mono (by decide)) (hd.mono (by decide))
 have cp:=zN8 q.g X (hz.g.mono (by decide)) (.inr h) hX
 generalize (q.valid && d.fits q)=fb at *
 obtain⟨⟨gn,us,os⟩,⟨lo,hi,rows⟩,⟨ts,c⟩⟩:=q
 obtain⟨dk,di,dx⟩:=d
 cbv
 refine cA cf ?_
 cbv
 refine zV (fun e1=>?_) (fun e1=>?_)
 ·cbv
  refine cA cp ?_
  cbv
  refine z6 (by decide) ?_
  cbv
  (refine rC ?_;cbv)
  exact zM rfl
 ·cbv
  (refine rC ?_;cbv)
  exact zM rfl
theorem zNW (s:Scp)(d:Dec)(X P:List R)(fb hb:Bool)(cf:zB 96 [qv s.q,dv d] (.bool (fun _=>fb)))(ch:fb=true→zB 102 [dv d,rlv X,rlv P] (.bool (fun _=>hb))):zB 101 [.agg (dc d),.dptr (sc s) 0,.dptr [rlv X] 0,.dptr [rlv P] 0] (.bool (fun _=>!(fb && hb))):=by
 refine sF Tryz.f101 ?_
 obtain⟨⟨⟨gn,us,os⟩,⟨lo,hi,rows⟩,⟨ts,c1,c2,c3⟩⟩,path,lems⟩:=s
 obtain⟨dk,di,d1,d2,d3⟩:=d
 cbv
 refine cA cf ?_
 cbv
 refine z5 (fun e=>?_) (fun e=>?_)
 ·have ch':=ch e
  subst e
  cbv
  refine cA ch' ?_
  cbv
  (refine rC ?_;cbv)
  exact xX rfl
 ·subst e
  cbv
  (refine rC ?_;cbv)
  exact z7 rfl
theorem zHY:Pg.funcs[41]?=some Tryz.f41:=by rw[u7];rfl
theorem zGI (x:FQry)(path:List Dec)(L:List Lem)(l:List Rat)(hx:x.small)(hok:x.ok)(hd:Dsz (2^20) path)(hl:InpOk x l):zB 41 [sv ⟨x.q,path,L⟩,rlv (l.map zC)] (.bool (fun _=>memB x path l)):=by
 refine xZ zHY rfl rfl rfl rfl rfl ?_
 have hv:=hx.valid hok
 have hz:=hx.sz
 have cv:=uS x.q (hz.mono (by decide))
 rw[hv] at cv
 have hrv:x.r.g.valid (x.g.n:Int)=true:=by
  have:=hv
  unfold Qry.valid at this
  simp only[Bool.and_eq_true] at this
  exact this.1.2
 have cc:=zQ1 x.r l hx.r hrv (hz.r.mono (by decide)) hok.rows hl.len hx.g.n2 (m:=20) (by decide) hl.fit
 have cp:=zLV x.g l hx.g (zMY hx hok) (hz.g.mono (by decide)) hok.us hl.len (m:=20) (by decide) (by decide) hl.fit
 have hany:(path.any fun d=>!(d.fits x.q && uA x d l))=!(path.all fun d=>uA x d l):=by
  rw[List.not_all_eq_any_not]
  congr 1
  funext d
  cases h:d.fits x.q with
  | true=>rfl
  | false =>
   have:uA x d l=false:=by unfold uA;rw[h];rfl
   rw[this];rfl
 have ch:=zMW (fun d=>!(d.fits x.q && uA x d l)) path (Nat.lt_trans hd.len (by decide)) 101 [.dptr (sc ⟨x.q,path,L⟩) 0,.dptr [rlv (l.map zC)] 0,.dptr [rlv ((uJ x.g l).map zC)] 0] (fun d hdm=>zNW ⟨x.q,path,L⟩ d _ _ _ _ (tM x.q d ((hd.sz d hdm).mono (by decide))) (fun h=>zLR x d l hx hok (hd.sz d hdm) hl h))
 rw[hany] at ch
 generalize hres:memB x path l=res
 have r0:res=(l6 x.r l && path.all fun d=>uA x d l):=hres.symm
 have hrg:x.r.g=x.q.r:=rfl
 have hgg:x.g.g=x.q.g:=rfl
 rw[hrg] at cc
 rw[hgg] at cp
 clear hres hl hx hok hz hv hrv hd hrg hgg hany
 generalize (path.all fun d=>uA x d l)=pa at *
 generalize l6 x.r l=cb at *
 generalize (uJ x.g l).map zC=P at *
 generalize l.map zC=X at *
 generalize x.q=Q at *
 obtain⟨⟨gn,us,os⟩,⟨lo,hi,rows⟩,⟨ts,c⟩⟩:=Q
 cbv
 refine cA cv ?_
 cbv
 refine qQ rfl ?_
 cbv
 refine cA cc ?_
 cbv
 refine zV (fun e1=>?_) (fun e1=>?_)
 ·cbv
  refine cA cp ?_
  cbv
  refine uC (.trans (.frz 2 rfl rfl (by repeat' first | exact trivial | apply And.intro) (by repeat' first | exact trivial | apply And.intro)) (.trans (.frz 3 rfl rfl (by repeat' first | exact trivial | apply And.intro) (by repeat' first | exact trivial | apply And.intro)) (.frz 5 rfl rfl (by repeat' first | exact trivial | apply And.intro) (by repeat' first | exact trivial | apply And.intro)))) rfl (by exact⟨lR,⟨rfl,lR,lR,lR,trivial⟩,trivial⟩) ch rfl ?_
  cbv
  (refine rC ?_;cbv)
  exact xX (by rw[r0,e1];cases pa <;> rfl)
 ·cbv
  (refine rC ?_;cbv)
  exact zM (by rw[r0,e1];rfl)
theorem zHG (s:Scp)(X:List R)(hz:s.q.sz (2^31))(h:s.q.valid=false∨(X.length:Int)≠s.q.g.n)(hX:X.length<2^40):zB 41 [sv s,rlv X] (.bool (fun _=>false)):=by
 refine xZ zHY rfl rfl rfl rfl rfl ?_
 have cv:=uS s.q (hz.mono (by decide))
 have cc:s.q.valid=true→zB 99 [rgv s.q.r,rlv X] (.bool (fun _=>false)):=fun hv=>zN0 s.q.r X (hz.r.mono (by decide)) (.inr (fun e=>by
  rcases h with h | h
  ·rw[hv] at h;cases h
  ·unfold Qry.valid at hv
   simp only[Bool.and_eq_true] at hv
   have hr:=hv.1.2
   unfold Reg.valid at hr
   simp only[Bool.and_eq_true,decide_eq_true_eq] at hr
   omega))
 generalize s.q.valid=b at *
 obtain⟨⟨⟨gn,us,os⟩,⟨lo,hi,rows⟩,⟨ts,c1,c2,c3⟩⟩,path,lems⟩:=s
 cbv
 refine cA cv ?_
 cbv
 refine z5 (fun e=>?_) (fun e=>?_)
 ·have cc':=cc e
  cbv
  refine cA cc' ?_
  cbv
  refine cZ rfl ?_
  cbv
  (refine rC ?_;cbv)
  exact zM rfl
 ·cbv
  (refine rC ?_;cbv)
  exact zM rfl
def eyS:Scp:=⟨exS.q,[],[⟨0,false,zC (-1),[]⟩,⟨0,true,zC 2,[]⟩]⟩
def eyQ:FQry:=⟨⟨1,[exU],[F.var 1]⟩,⟨[(0,3)],[]⟩,F.var 1⟩
theorem eyq:eyQ.q=exS.q:=by
 show (⟨⟨1,[fA exU],[fA (F.var 1)]⟩,⟨[zC 0],[zC 3],[]⟩,fA (F.var 1)⟩:Qry)=_
 rw[v5]
 rfl
theorem zBE:eyQ.small:=⟨⟨by decide,by decide,by decide,by decide,by decide,fun f hf=>by
  rw[List.mem_singleton.1 hf]
  exact ((wO 0).sub (wY fits_one)).mono (by decide) (by decide),fun f hf=>by
  rw[List.mem_singleton.1 hf]
  exact (wO 1).mono (by decide) (by decide)⟩,⟨rfl,fun b hb=>by
  rw[List.mem_singleton.1 hb]
  exact⟨⟨by decide,by decide⟩,⟨by decide,by decide⟩⟩,fun b hb=>by
  rw[List.mem_singleton.1 hb]
  decide,by decide,fun f hf=>absurd hf (by simp [eyQ])⟩,(wO 1).mono (by decide) (by decide)⟩
theorem zMG:eyQ.ok:=⟨fun i f h=>by
  match i,h with
  | 0,h =>
   cases h
   exact (F.wf.var (by decide) (by decide)).sub (F.wf.num 1 _),fun f hf=>by
  rw[List.mem_singleton.1 hf]
  exact F.wf.var (by decide) (by decide),fun f hf=>absurd hf (by simp [eyQ]),F.wf.var (by decide) (by decide)⟩
theorem eyI (q:Rat)(h:Fits 20 q):InpOk eyQ [q]:=⟨rfl,fun p hp=>by rw[List.mem_singleton.1 hp];exact h⟩
theorem ey1:(eyS.fm ⟨13,0,1,2⟩).isSome=true:=by decide +kernel
theorem ey2a:(fA ((eyS.fm ⟨13,0,1,2⟩).getD F.zero)).ts=txF.ts∧(fA ((eyS.fm ⟨13,0,1,2⟩).getD F.zero)).c=txF.c:=by decide +kernel
theorem ey2:fA ((eyS.fm ⟨13,0,1,2⟩).getD F.zero)=txF:=by
 have h:=ey2a
 generalize fA ((eyS.fm ⟨13,0,1,2⟩).getD F.zero)=f at *
 obtain⟨a,b⟩:=f
 obtain⟨h1,h2⟩:=h
 dsimp only at h1 h2
 rw[h1,h2]
theorem ey3:(eyS.fm ⟨7,0,0,0⟩).isSome=false:=by decide +kernel
theorem ey4:eyS.best 0=(1,2):=by decide +kernel
theorem ey5:eyS.all.length=7:=by decide +kernel
theorem ey6:eyS.all[6]?=some ⟨13,0,1,2⟩:=by decide +kernel
theorem ey7:(⟨⟨0,[],[]⟩,⟨[],[],[]⟩,⟨[],R0⟩⟩:Qry).valid=false:=by decide +kernel
theorem ey8:memB eyQ [] [2]=true:=by decide +kernel
theorem ey9:memB eyQ [] [4]=false:=by decide +kernel
theorem eyS_sz:eyS.sz (2^20):=⟨zG1,⟨by show 0<_;decide,fun a ha=>absurd ha (by simp [eyS])⟩,⟨by show 2<_;decide,fun a ha=>by
  have:a=⟨0,false,zC (-1),[]⟩∨a=⟨0,true,zC 2,[]⟩:=by simpa [eyS] using ha
  rcases this with h | h
  ·rw[h];exact tY (-1) (by decide) (by decide)
  ·rw[h];exact tY 2 (by decide) (by decide),fun a ha=>by
  have:a=⟨0,false,zC (-1),[]⟩∨a=⟨0,true,zC 2,[]⟩:=by simpa [eyS] using ha
  rcases this with h | h <;> (rw[h];exact⟨by show 0<_;decide,fun a ha=>absurd ha (by simp)⟩)⟩⟩
theorem zIK:zB 78 [] (sv eyS):=by
 refine sF Tryz.f78 ?_
 have cv0:=bY 0
 have cv1:=bY 1
 have c1:=s32 1 (by decide) (by decide)
 have c3:=s32 3 (by decide) (by decide)
 have cm1:=s32 (-1) (by decide) (by decide)
 have c2:=s32 2 (by decide) (by decide)
 have cn:=pQ (zC ((1:Int):Rat))
 have hcn:∀ v:Int,Cn (F.var v).ts:=fun v=>⟨List.pairwise_singleton _ _,fun t ht=>by
  have:t=(v,1):=by simpa [F.var] using ht
  rw[this];show (1:Rat)≠0;decide⟩
 have cs:=eF (F.var 0).ts (zC 0) ⟨[],zC ((1:Int):Rat)⟩ (hcn 0) Cn.nil ⟨by decide,fun t ht=>((wO 0).t t ht).mono (by decide)⟩ (by rw[v5];exact mZ) ⟨⟨by show 0<_;decide,fun _ h=>absurd h (by simp)⟩,(tY 1 (by decide) (by decide)).mono (by decide)⟩ (by show 1+0<2^37;decide)
 rw[zY] at cs
 have e1:(A.f ⟨[],zC ((1:Int):Rat)⟩)=F.num 1:=by show (⟨[],(zC ((1:Int):Rat)).q⟩:F)=_;rw[zY];rfl
 rw[e1] at cs
 have e2:F.sub ⟨(F.var 0).ts,0⟩ (F.num 1)=exU:=rfl
 rw[e2] at cs
 have cs':zB 124 [av (fA (F.var 0)),av ⟨[],zC ((1:Int):Rat)⟩] (av (fA exU)):=cs
 have es:sv eyS=.agg [.int .i64 (fun _=>1),alv [fA exU],alv [fA (F.var 1)],rlv [R0],rlv [zC ((3:Int):Rat)],alv [],tsv (fA (F.var 1)).ts,.bool (fun _=>(fA (F.var 1)).c.neg),nat (fA (F.var 1)).c.num,nat (fA (F.var 1)).c.den,dlv [],llv [⟨0,false,zC ((-1:Int):Rat),[]⟩,⟨0,true,zC ((2:Int):Rat),[]⟩]]:=rfl
 rw[es]
 clear es e1 e2 cs hcn
 dsimp only [fv] at cv0 cv1
 generalize zC ((3:Int):Rat)=T at *
 generalize zC ((1:Int):Rat)=O at *
 generalize zC ((-1:Int):Rat)=M1 at *
 generalize zC ((2:Int):Rat)=T2 at *
 generalize fA (F.var 0)=V0 at *
 generalize fA (F.var 1)=V1 at *
 generalize fA exU=U at *
 cbv
 refine cA cv0 ?_
 cbv
 refine cA c1 ?_
 cbv
 refine cA cn ?_
 cbv
 refine yQ rfl (by exact⟨okA,⟨zQ rfl,lR,lR,lR,trivial⟩,trivial⟩) cs' rfl ?_
 cbv
 refine qO 6 (by cbv) (by cbv) ?_
 cbv
 refine dA cv1 ?_
 cbv
 refine qO 9 (by cbv) (by cbv) ?_
 cbv
 refine dA c3 ?_
 cbv
 refine dA cv1 ?_
 cbv
 refine zO 7 (by cbv) ?_
 cbv
 refine dA cm1 ?_
 cbv
 refine dA c2 ?_
 cbv
 (refine rC ?_;cbv)
 exact⟨lR,zQ rfl,zQ rfl,zQ rfl,zQ rfl,yX rfl,lR,lR,lR,lR,yX rfl,zQ rfl,trivial⟩
theorem bX:zB 22 [] (.bool (fun _=>true)):=by
 refine sF Tryz.f22 ?_
 have ce:=zIK
 have cf:=rB eyS ⟨13,0,1,2⟩ (eyS_sz.mono (by decide))
 rw[ey1] at cf
 have cf':zB 27 [sv eyS,rwv ⟨13,0,1,2⟩] (.tup [av txF,.bool (fun _=>true)]):=by rw[←ey2];exact cf
 have cg:=rB eyS ⟨7,0,0,0⟩ (eyS_sz.mono (by decide))
 rw[ey3] at cg
 have cb:=zB6 eyS 0 eyS_sz.lems
 rw[ey4] at cb
 have cb':zB 79 [sv eyS,.int .i64 (fun _=>0)] (.tup [.int .i64 (fun _=>1),.int .i64 (fun _=>2)]):=cb
 clear cb
 have cl:=zGJ eyS eyS_sz (by decide) (by decide) (by decide) (by decide)
 have h7:=ey5
 have h6:=ey6
 have ct:=zSO
 have cv:=uS eyS.q (eyS_sz.q.mono (by decide))
 have hv:eyS.q.valid=true:=exV
 rw[hv] at cv
 have cz:=uS (⟨⟨0,[],[]⟩,⟨[],[],[]⟩,⟨[],R0⟩⟩:Qry) ⟨⟨⟨by show 0<_;decide,fun _ h=>absurd h (by simp)⟩,⟨by show 0<_;decide,fun _ h=>absurd h (by simp)⟩⟩,⟨⟨by show 0<_;decide,fun _ h=>absurd h (by simp)⟩,⟨by show 0<_;decide,fun _ h=>absurd h (by simp)⟩,⟨by show 0<_;decide,fun _ h=>absurd h (by simp)⟩⟩,⟨⟨by show 0<_;decide,fun _ h=>absurd h (by simp)⟩,mZ⟩⟩
 rw[ey7] at cz
 have c2:=s32 2 (by decide) (by decide)
 have c4:=s32 4 (by decide) (by decide)
 have cm2:=zGI eyQ [] eyS.lems [2] zBE zMG eyS_sz.path (eyI 2 ⟨by decide,by decide⟩)
 have cm4:=zGI eyQ [] eyS.lems [4] zBE zMG eyS_sz.path (eyI 4 ⟨by decide,by decide⟩)
 rw[eyq] at cm2 cm4
 rw[ey8] at cm2
 rw[ey9] at cm4
 have cm2':zB 41 [sv eyS,rlv [zC ((2:Int):Rat)]] (.bool (fun _=>true)):=cm2
 have cm4':zB 41 [sv eyS,rlv [zC ((4:Int):Rat)]] (.bool (fun _=>false)):=cm4
 have htx:((txS 2).toList == (⟨#[50,42,120,48,32,45,32,51,42,120,49]⟩:ByteArray).toList)=true:=by show ((⟨#[50,42,120,48,32,45,32,51,42,120,49]⟩:ByteArray).toList == _)=true;simp
 clear cf cm2 cm4 hv
 generalize zC ((2:Int):Rat)=T2 at *
 generalize zC ((4:Int):Rat)=T4 at *
 generalize txS 2=TX at *
 generalize txF=TF at *
 generalize (eyS.fm ⟨7,0,0,0⟩).getD F.zero=G0 at *
 generalize eyS.all=L at *
 generalize fA G0=G1 at *
 generalize eyS=S at *
 obtain⟨⟨⟨gn,us,os⟩,⟨lo,hi,rows⟩,⟨ts,c1',c2',c3'⟩⟩,path,lems⟩:=S
 obtain⟨TFt,TFc⟩:=TF
 obtain⟨Gt,Gc⟩:=G1
 cbv
 refine cA ce ?_
 cbv
 refine cA cf' ?_
 cbv
 refine cA cg ?_
 cbv
 refine cA cb' ?_
 cbv
 refine cA cl ?_
 cbv
 refine bL 53 [1,2,3,5,6,7,8] [1,2] rfl (by cbv) ?_
 cbv
 refine qQ rfl ?_
 cbv
 refine pK rfl ?_
 cbv
 refine dA ct ?_
 cbv
 refine qQ htx ?_
 cbv
 refine xM rfl ?_
 cbv
 refine xM rfl ?_
 cbv
 refine xM (by rw[zA,h7];rfl) ?_
 cbv
 refine xC (i:=6) h6 rfl jG gC ?_
 cbv
 refine zCO (a:=⟨13,0,1,2⟩) (b:=⟨13,0,1,2⟩) ?_
 cbv
 refine xM rfl ?_
 cbv
 refine dA cv ?_
 cbv
 refine qQ rfl ?_
 cbv
 refine dA cz ?_
 cbv
 refine pK rfl ?_
 cbv
 refine dA c2 ?_
 cbv
 refine xG (by exact⟨okA,zQ rfl,trivial⟩) cm2' rfl ?_
 cbv
 refine qQ rfl ?_
 cbv
 refine dA c4 ?_
 cbv
 refine xG (by exact⟨okA,zQ rfl,trivial⟩) cm4' rfl ?_
 cbv
 (refine rC ?_;cbv)
 exact xX rfl
structure Mk where
 u:UInt8
 up:Bool
 num:Int
def mkc (m:Mk):List PV:=[.int .u8 (fun _=>(m.u.toNat:Int)),.bool (fun _=>m.up),.int .i8 (fun _=>m.num)]
abbrev mkv (l:List Mk):PV:=.sl (fun _=>enc mkc l)
theorem oC (a:Mk):yT uT (mkc a)=true:=rfl
theorem zCE (a:Mk):(mkc a).length=3:=rfl
def mkL (m:Mk):Lem:=⟨((m.u.toNat % 5:Nat):Int),m.up,zC (uD m.num 4),[]⟩
def yS (raw:List UInt8) (ms:List Mk):Scp:=⟨(fdY raw 0).1.q,(fdS raw).path,ms.map mkL⟩
def zScp:Scp:=⟨⟨⟨0,[],[]⟩,⟨[],[],[]⟩,⟨[],R0⟩⟩,[],[]⟩
theorem zH2 {m:Int}(h1:-128≤m)(h2:m≤127):Fits 3 (uD m 4):=by
 have h:m=((m+128).toNat:Int) - 128:=by omega
 have h3:(m+128).toNat<256:=by omega
 have key:∀ k:Nat,k<256→(uD ((k:Int) - 128) 4).num.natAbs<2^32∧(uD ((k:Int) - 128) 4).den<2^32:=by decide +kernel
 rw[h]
 obtain⟨g1,g2⟩:=key _ h3
 exact⟨Nat.lt_of_lt_of_le g1 (by decide),Nat.lt_of_lt_of_le g2 (by decide)⟩
theorem zEQ:Pg.funcs[23]?=some Tryz.f23:=by rw[u7];rfl
theorem tL (raw:List UInt8)(ms:List Mk)(hr:raw.length≤9223372036854775807)(hm:ms.length≤9223372036854775807)(h:400<raw.length∨10<ms.length):zB 23 [u8v raw,mkv ms] (.tup [sv zScp,.bool (fun _=>false)]):=by
 refine xZ zEQ rfl rfl rfl rfl rfl ?_
 cbv
 refine zR (fun h4=>?_) (fun h4=>?_)
 ·cbv
  (refine rC ?_;cbv)
  exact okA
 cbv
 refine zF (fun h5=>?_) (fun h5=>?_)
 ·cbv
  (refine rC ?_;cbv)
  exact okA
 ·exact absurd h (by rw[zA] at h4 h5;(try dsimp only [zG] at *);omega)
theorem iD (raw:List UInt8)(ms:List Mk)(hr:raw.length≤400)(hm:ms.length≤10)(hv:∀ m,m∈ms→-128≤m.num∧m.num≤127):zB 23 [u8v raw,mkv ms] (.tup [sv (yS raw ms),.bool (fun _=>true)]):=by
 refine xZ zEQ rfl rfl rfl rfl rfl ?_
 have cp:=eH raw (by omega)
 have facts:∀ i,i<ms.length→∃ (m:Mk) (r:R),ms[i]?=some m∧zB 68 [.int .i64 (fun _=>nx .i64 m.num),.int .i64 (fun _=>4)] (.tup [rv r,.int .i64 (fun _=>0)])∧(ms.take (i+1)).map mkL=(ms.take i).map mkL++[⟨nx .i64 (irem (m.u.toNat:Int) 5),m.up,r,[]⟩]:=fun i hi=>by
  obtain⟨m,hmi⟩:=zS hi
  obtain⟨h1,h2⟩:=hv m (List.mem_of_getElem? hmi)
  have e:nx .i64 m.num=m.num:=by
   unfold nx
   simp [IntKind.wrap,IntKind.signed,IntKind.bits]
   omega
  have c:=s43 m.num 4 (by omega) (by omega) (by decide) (by decide) (by decide)
  refine⟨m,_,hmi,by rw[e];exact c,?_⟩
  rw[List.take_add_one,hmi,List.map_append]
  congr 1
  have e2:nx .i64 (irem (m.u.toNat:Int) 5)=((m.u.toNat % 5:Nat):Int):=by
   rw[show (5:Int)=((5:Nat):Int) from rfl,vQ]
   unfold nx
   have:=Nat.mod_lt m.u.toNat (show 0<5 by decide)
   simp [IntKind.wrap,IntKind.signed,IntKind.bits]
   omega
  rw[e2]
  rfl
 obtain⟨X,hX⟩:∃ X:Nat→List Lem,∀ i,(ms.take i).map mkL=X i:=⟨_,fun _=>rfl⟩
 have x0:X 0=[]:=by rw[←hX];rfl
 have x9:ms.map mkL=X ms.length:=by rw[←hX,List.take_length]
 have xl:∀ i,i≤ms.length→(X i).length=i:=fun i h=>by rw[←hX,List.length_map,List.length_take];omega
 simp only[hX] at facts
 have hfin:yS raw ms=⟨(fdY raw 0).1.q,(fdS raw).path,X ms.length⟩:=by unfold yS;rw[x9]
 rw[hfin]
 have hpq:(fdS raw).q=(fdY raw 0).1.q:=rfl
 rw[←hpq]
 clear hX x9 hfin hv hpq
 generalize (fdS raw)=S0 at *
 obtain⟨⟨⟨n,us,os⟩,⟨lo,hi',rows⟩,⟨ts,c⟩⟩,path,lems⟩:=S0
 generalize hN:ms.length=N at *
 cbv
 refine z6 (by rw[zA];(try dsimp only [zG] at *);omega) ?_
 cbv
 refine z9 (by rw[zA];(try dsimp only [zG] at *);omega) ?_
 cbv
 refine cA cp ?_
 cbv
 clear cp
 refine z4 (σ:=Nat) (fun i=>⟨[(1,mkv ms),(4,.ptr 4 0),(6,.ptr 6 0),(7,.int .i64 (fun _=>(i:Int)))],
   [(4,.box [.int .i64 (fun _=>0),.nil,.nil,.nil,.nil,.nil,.nil,.ff,.nil,.nil,.nil,.nil]),(6,.box [.int .i64 (fun _=>n),alv us,alv os,rlv lo,rlv hi',alv rows,tsv ts,.bool (fun _=>c.neg),nat c.num,nat c.den,dlv path,.osl 500 6 (fun _=>0) (fun _=>(X i).length)]),(500,.arr 6 (fun _=>enc lc (X i)))]⟩)
  (fun i=>i≤N) (fun i=>N - i) 0 (Nat.zero_le _)
  (.trans (.adoptB 500 6 6 11 rfl rfl rfl) (.le ?_ ?_ rfl)) ?_
 ·cbv
  exact⟨lR,lR,lR,zE rfl,trivial⟩
 ·cbv
  rw[x0]
  repeat' first | exact trivial | exact lR | exact zW rfl rfl | exact zI rfl | apply And.intro
 intro i hi
 have hXi:=xl i hi
 cbv
 refine zF (fun h=>?_) (fun h=>?_)
 ·have hlt:i<N:=by rw[zA] at h;(try dsimp only [zG] at *);omega
  obtain⟨m,r,g1,cf,g2⟩:=facts i hlt
  clear facts xl x0
  generalize X i=Xi at *
  cbv
  refine yF g1 oC zCE ?_
  cbv
  refine cA cf ?_
  cbv
  refine zO 17 (by cbv) ?_
  cbv
  refine yF g1 oC zCE ?_
  cbv
  refine⟨wS om,?_⟩
  cbv
  refine yF g1 oC zCE ?_
  cbv
  refine aO zGE ?_
  cbv
  have hst:enc lc Xi++zL [lc ⟨nx .i64 (irem (m.u.toNat:Int) 5),m.up,r,[]⟩]=enc lc (X (i+1)):=by rw[g2,←zT];rfl
  refine⟨zH om om,i+1,(by show i+1≤N;omega),(by show N - (i+1)<N - i;omega),.le ?_ ?_ rfl⟩
  ·cbv
   repeat' first | exact trivial | exact lR | exact zE om | apply And.intro
  ·cbv
   repeat' first | exact trivial | exact lR | exact zW rfl (by rw[g2];simp [zL,zA]) | exact zI hst | apply And.intro
 ·have hin:i=N:=by rw[zA] at h;(try dsimp only [zG] at *);omega
  subst hin
  generalize X i=Xi at *
  cbv
  refine qW _ (.trans (.le (ps':=⟨[(4,.ptr 4 0),(5,.tt)],[(4,.box [.int .i64 (fun _=>n),alv us,alv os,rlv lo,rlv hi',alv rows,tsv ts,.bool (fun _=>c.neg),nat c.num,nat c.den,dlv path,.osl 500 6 (fun _=>0) (fun _=>Xi.length)]),(500,.arr 6 (fun _=>enc lc Xi))]⟩) ?_ ?_ rfl) (.frz 500 rfl rfl ?_ ?_)) rfl ?_
  ·cbv
   repeat' first | exact trivial | exact lR | apply And.intro
  ·cbv
   repeat' first | exact trivial | exact lR | exact zI rfl | apply And.intro
  ·cbv
   repeat' first | exact trivial | exact z8 (u5 lc _) | apply And.intro
  ·cbv
   repeat' first | exact trivial | exact z8 (u5 lc _) | apply And.intro
  ·cbv
   exact⟨⟨lR,lR,lR,lR,lR,lR,lR,lR,lR,lR,lR,zQ (wQ lc _),trivial⟩,z7 rfl,trivial⟩
def pH (P:List Rat) (m:Lem):Bool:=match P[m.u.toNat]? with
 | none=>true
 | some p=>if m.up=true then decide (y7 p m.v.q≤0) else decide (0≤y7 p m.v.q)
def zJM (L:List Lem) (P:List Rat):Bool:=L.all (pH P)
theorem zQX (x:FQry)(path:List Dec)(L:List Lem)(l:List Rat)(hx:x.small)(hok:x.ok)(hl:InpOk x l)(hL:∀ m,m∈L→0≤m.u∧m.v.sz (2^20))(hLl:L.length<2^38):zB 30 [sv ⟨x.q,path,L⟩,rlv (l.map zC)] (.bool (fun _=>zJM L (uJ x.g l))):=by
 refine sF Tryz.f30 ?_
 have hz:=hx.sz
 have cp:zB 89 [gv x.q.g,rlv (l.map zC)] (.tup [rlv ((uJ x.g l).map zC),.int .i64 (fun _=>0)]):=zHL x.g l hx.g (zMY hx hok) (hz.g.mono (by decide)) hok.us hl.len (m:=20) (by decide) (by decide) hl.fit
 have hpl:(uJ x.g l).length=x.g.us.length:=by unfold uJ;rw[List.length_map]
 have hpf:∀ (i:Nat) p,(uJ x.g l)[i]?=some p→Fits (2^28) p:=fun i p h=>by
  unfold uJ at h
  rw[List.getElem?_map] at h
  cases hf:x.g.us[i]? with
  | none=>rw[hf] at h;cases h
  | some f =>
   rw[hf] at h
   cases h
   have hwf:=hok.us _ f hf
   have hlt:=(List.getElem?_eq_some_iff.1 hf).1
   have hvl:(xJ x.g.us l).length=x.g.n+x.g.us.length:=by rw[gK,hl.len]
   obtain⟨V,Q⟩:=vseq hx.g hok.us hl.len (m:=20) (by decide) (by decide) hl.fit
   have:=uQ (hx.g.uf f (List.mem_of_getElem? hf)) (gI (l:=xJ x.g.us l) (hwf.mono (by rw[hvl];omega)) (fun q hq=>Q.fit x.g.us.length q (by rw[Q.v9];exact hq)))
   exact this.mono (by decide)
 have hus:=hx.g.us
 generalize hres:zJM L (uJ x.g l)=res
 have r1:∀ m,m∈L→pH (uJ x.g l) m=false→res=false:=fun m hm h=>by
  rw[←hres]
  cases ha:zJM L (uJ x.g l) with
  | false=>rfl
  | true=>have:=List.all_eq_true.1 ha m hm;rw[h] at this;cases this
 have r2:(∀ m,m∈L→pH (uJ x.g l) m=true)→res=true:=fun h=>by
  rw[←hres]
  exact List.all_eq_true.2 h
 have facts:∀ i,i<L.length→∃ m,L[i]?=some m∧(((uJ x.g l).map zC).length≤m.u→pH (uJ x.g l) m=true)∧(m.u<((uJ x.g l).map zC).length→∃ (k:Nat) (p:R) (z:Int),m.u=(k:Int)∧((uJ x.g l).map zC)[k]?=some p∧zB 54 [rv p,rv m.v] (.int .i64 (fun _=>z))∧(pH (uJ x.g l) m=if m.up=true then decide (z≤0) else decide (0≤z))):=fun i hi=>by
  obtain⟨m,hm⟩:=zS hi
  obtain⟨h0,h1⟩:=hL m (List.mem_of_getElem? hm)
  refine⟨m,hm,fun h=>?_,fun h=>?_⟩
  ·rw[List.length_map] at h
   unfold pH
   rw[List.getElem?_eq_none (by omega)]
  ·rw[List.length_map] at h
   obtain⟨p,hp⟩:=zS (l:=uJ x.g l) (i:=m.u.toNat) (by omega)
   have c:=s42 (zC p) m.v ((zU (hpf _ p hp)).mono (by decide)) (h1.mono (by decide))
   rw[zY] at c
   refine⟨m.u.toNat,zC p,_,by omega,by rw[List.getElem?_map,hp];rfl,c,?_⟩
   unfold pH
   rw[hp]
 have hXl:((uJ x.g l).map zC).length≤4:=by rw[List.length_map];omega
 obtain⟨H,hH⟩:∃ H:Lem→Bool,pH (uJ x.g l)=H:=⟨_,rfl⟩
 rw[hH] at r1 r2 facts
 clear hres hH hpf hpl hz hx hok hl hL hus
 generalize (uJ x.g l).map zC=P at *
 generalize l.map zC=X at *
 generalize x.q=Q at *
 obtain⟨⟨gn,us,os⟩,⟨lo,hi,rows⟩,⟨ts,c⟩⟩:=Q
 cbv
 refine cA cp ?_
 cbv
 refine z4 (σ:=Nat) (fun i=>⟨[(2,.ptr 2 0),(5,rlv P),(7,.int .i64 (fun _=>(i:Int)))],[(2,.box [.int .i64 (fun _=>gn),alv us,alv os,rlv lo,rlv hi,alv rows,tsv ts,.bool (fun _=>c.neg),nat c.num,nat c.den,dlv path,llv L])]⟩)
  (fun i=>i≤L.length∧∀ (j:Nat) m,L[j]?=some m→j<i→H m=true) (fun i=>L.length - i) 0 ⟨Nat.zero_le _,fun j m _ h=>absurd h (by omega)⟩ (wkZ) ?_
 intro i hi'
 obtain⟨hi1,hi2⟩:=hi'
 cbv
 refine zF (fun h=>?_) (fun h=>?_)
 ·have hlt:i<L.length:=by rw[zA] at h;(try dsimp only [zG] at *);omega
  obtain⟨m,g1,k1,k2⟩:=facts i hlt
  have hf:=r1 m (List.mem_of_getElem? g1)
  have hsucc:H m=true→∀ (j:Nat) m',L[j]?=some m'→j<i+1→H m'=true:=fun hH' j m' hj hlt'=>by
   by_cases e:j=i
   ·rw[e,g1] at hj;cases hj;exact hH'
   ·exact hi2 j m' hj (by omega)
  clear facts r1 r2 hi2
  generalize hHm:H m=hm at *
  obtain⟨mu,mup,mv,mpf⟩:=m
  dsimp only at k1 k2
  cbv
  refine yF g1 vD uO ?_
  cbv
  refine zF (fun e=>?_) (fun e=>?_)
  ·have hs:=hsucc (k1 (by rw[zA] at e;(try dsimp only [zG] at *);omega))
   cbv
   exact⟨zH om om,i+1,⟨(by show i+1≤L.length;omega),hs⟩,(by show L.length - (i+1)<L.length - i;omega),wkZ⟩
  ·obtain⟨k,p,z,e0,e1,cz,e2⟩:=k2 (by rw[zA] at e;(try dsimp only [zG] at *);omega)
   clear k1 k2
   cbv
   refine zO 9 (by cbv) ?_
   cbv
   refine xC e1 e0 yU xE ?_
   cbv
   refine dA cz ?_
   cbv
   refine z5 (fun eu=>?_) (fun eu=>?_)
   ·have eu':mup=true:=eu
    subst eu'
    rw[if_pos rfl] at e2
    cbv
    refine zR (fun ez=>?_) (fun ez=>?_)
    ·have hr:=hf (by rw[e2];exact decide_eq_false (by omega))
     cbv
     (refine rC ?_;cbv)
     exact zM hr
    ·have hs:=hsucc (by rw[e2];exact decide_eq_true (by omega))
     cbv
     refine qQ rfl ?_
     cbv
     exact⟨zH om om,i+1,⟨(by show i+1≤L.length;omega),hs⟩,(by show L.length - (i+1)<L.length - i;omega),wkZ⟩
   ·have eu':mup=false:=eu
    subst eu'
    rw[if_neg (by decide)] at e2
    cbv
    refine pK rfl ?_
    cbv
    refine zF (fun ez=>?_) (fun ez=>?_)
    ·have hr:=hf (by rw[e2];exact decide_eq_false (by omega))
     cbv
     (refine rC ?_;cbv)
     exact zM hr
    ·have hs:=hsucc (by rw[e2];exact decide_eq_true (by omega))
     cbv
     exact⟨zH om om,i+1,⟨(by show i+1≤L.length;omega),hs⟩,(by show L.length - (i+1)<L.length - i;omega),wkZ⟩
 have hr:=r2 (fun m hm=>by
  obtain⟨j,hj⟩:=cC hm
  exact hi2 j m hj (by have:=(List.getElem?_eq_some_iff.1 hj).1;rw[zA] at h;(try dsimp only [zG] at *);omega))
 cbv
 (refine rC ?_;cbv)
 exact z7 hr
end Go.Proofs.YtgcpehdkdnkgeaaGreat
