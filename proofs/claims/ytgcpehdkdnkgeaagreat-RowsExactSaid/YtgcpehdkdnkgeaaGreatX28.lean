/- A part of the proof: RdA, RdB, LwA, LwB, PlD, LwC, BrA. -/
import Derived.Test.YtgcpehdkdnkgeaaGreatX27
import Derived.Test.YtgcpehdkdnkgeaaGreatX25
import Derived.Test.YtgcpehdkdnkgeaaGreatX22
import Derived.Test.YtgcpehdkdnkgeaaGreatRows
import Derived.Deep.Slices
import Derived.Deep.Strs
import Derived.Lib.SmallJoins
import Derived.KernelRfl
set_option linter.all false
namespace Go.Proofs.YtgcpehdkdnkgeaaGreat
open Go
set_option maxRecDepth 100000
set_option maxHeartbeats 2000000
def wZ (a b:Row):Bool:=if a.k=b.k then (if a.i=b.i then (if a.lo=b.lo then decide (a.hi<b.hi) else decide (a.lo<b.lo)) else decide (a.i<b.i)) else decide (a.k<b.k)
theorem zAV (a b:Row):wZ a b=decide (j7 a b<0):=by
 unfold wZ j7 orI cI
 rw[Bool.eq_iff_iff]
 split <;> (try split) <;> (try split) <;> simp only[decide_eq_true_eq] <;> (repeat' split) <;> omega
theorem zPO (a b:Row):zB 135 [rwv a,rwv b] (.bool (fun _=>wZ a b)):=by
 refine sF Tryz.f135 ?_
 have h1:¬ a.k=b.k→wZ a b=decide (a.k<b.k):=fun h=>if_neg h
 have h2:a.k=b.k→¬ a.i=b.i→wZ a b=decide (a.i<b.i):=fun h g=>by unfold wZ;rw[if_pos h,if_neg g]
 have h3:a.k=b.k→a.i=b.i→¬ a.lo=b.lo→wZ a b=decide (a.lo<b.lo):=fun h g e=>by unfold wZ;rw[if_pos h,if_pos g,if_neg e]
 have h4:a.k=b.k→a.i=b.i→a.lo=b.lo→wZ a b=decide (a.hi<b.hi):=fun h g e=>by unfold wZ;rw[if_pos h,if_pos g,if_pos e]
 generalize wZ a b=r at *
 cbv
 refine zF (fun e1=>?_) (fun e1=>?_)
 ·cbv
  refine zF (fun e2=>?_) (fun e2=>?_)
  ·cbv
   refine zF (fun e3=>?_) (fun e3=>?_)
   ·have h:=h4 e1 e2 e3
    cbv
    (refine rC ?_;cbv)
    exact zX h.symm
   ·have h:=h3 e1 e2 e3
    cbv
    (refine rC ?_;cbv)
    exact zX h.symm
  ·have h:=h2 e1 e2
   cbv
   (refine rC ?_;cbv)
   exact zX h.symm
 ·have h:=h1 e1
  cbv
  (refine rC ?_;cbv)
  exact zX h.symm
theorem zQ2 (l:List Mult)(hl:Msz (2^32) l):zB 70 [mlv l] (.bool (fun _=>uE none l)):=by
 refine sF Tryz.f70 ?_
 have hll:=hl.len
 have hls:=hl.sz
 generalize hr:uE none l=r
 cbv
 refine z4 (σ:=Nat × Option Row) (fun s=>⟨[(0,mlv l),(3,.int .i64 (fun _=>(s.1:Int)))],[]⟩)
  (fun s=>s.1≤l.length∧r=uE s.2 (l.drop s.1)∧(s.1=0→s.2=none)∧(s.1≠0→∃ u,l[s.1 - 1]?=some u∧s.2=some u.row)) (fun s=>l.length - s.1)
  (0,none) ⟨om,hr.symm,fun _=>rfl,fun h=>absurd rfl h⟩ (.le ?_ ?_ rfl) ?_
 ·cbv
  exact okA
 ·cbv
 clear hr
 intro s hs
 obtain⟨h1,hv,h3,h4⟩:=hs
 generalize s.1=i at *
 generalize s.2=p at *
 cbv
 refine zF (fun h5=>?_) (fun h5=>?_)
 ·have hlt:i<l.length:=by rw[zA] at h5;(try dsimp only [zG] at *);omega
  obtain⟨t,ht⟩:=zS hlt
  have idx:∀ {K:List PV→Prop},K (mc t)→IdxOk 7 (fun _=>enc mc l) (fun _=>(i:Int)) K:=fun hK=>xB (l:=l) i rfl hlt jN w8 (fun m' hm'=>by rw[ht] at hm';cases hm';exact hK)
  have htz:=hls t (List.mem_of_getElem? ht)
  have cs:=s35 t.c (by have:=htz.n;omega)
  have cv:=s129 t.c htz
  have hd:l.drop i=t::l.drop (i+1):=yE ht
  have hvn:(¬ 0<yB t.c.q→r=false):=fun h=>by rw[hv,hd];unfold uE;rw[decide_eq_false h];rfl
  have hvo:t.c.ok=false→r=false:=fun h=>by rw[hv,hd];unfold uE;rw[h];simp
  have hv0:0<yB t.c.q→t.c.ok=true→p=none→r=uE (some t.row) (l.drop (i+1)):=fun h g e=>by
   rw[hv,hd,e]
   show (decide (0<yB t.c.q) && (t.c.ok && (true && uE (some t.row) (l.drop (i+1)))))=_
   rw[decide_eq_true h,g];simp
  have hv1:∀ w,0<yB t.c.q→t.c.ok=true→p=some w→r=(wZ w t.row && uE (some t.row) (l.drop (i+1))):=fun w h g e=>by
   rw[hv,hd,e,zAV]
   show (decide (0<yB t.c.q) && (t.c.ok && (decide (j7 w t.row<0) && uE (some t.row) (l.drop (i+1)))))=_
   rw[decide_eq_true h,g];simp
  clear hv
  generalize yB t.c.q=sg at *
  generalize t.c.ok=ok at *
  generalize hrest:uE (some t.row) (l.drop (i+1))=rest at *
  cbv
  refine zO 35 (by cbv) ?_
  cbv
  refine idx ?_
  cbv
  refine dA cv ?_
  cbv
  refine z5 (fun e2=>?_) (fun e2=>?_)
  rotate_left
  ·cbv
   (refine rC ?_;cbv)
   exact zM (hvo e2)
  cbv
  refine idx ?_
  cbv
  refine dA cs ?_
  cbv
  refine zR (fun e1=>?_) (fun e1=>?_)
  ·cbv
   (refine rC ?_;cbv)
   exact zM (hvn (by omega))
  cbv
  refine zR (fun e3=>?_) (fun e3=>?_)
  ·cbv
   obtain⟨u,hu,hu2⟩:=h4 om
   have cc:=zPO u.row t.row
   have hvv:=hv1 u.row (by omega) e2 hu2
   generalize wZ u.row t.row=cr at *
   refine⟨zH om om,xB (l:=l) (i - 1) om om jN w8 (fun u' hu'=>?_)⟩
   obtain rfl:u'=u:=by rw[hu] at hu';exact (Option.some.inj hu').symm
   cbv
   refine idx ?_
   cbv
   refine dA cc ?_
   cbv
   refine zV (fun e4=>?_) (fun e4=>?_)
   ·rw[e4,Bool.true_and] at hvv
    cbv
    exact⟨zH om om,(i+1,some t.row),⟨om,hvv.trans hrest.symm,fun h=>absurd h (by simp),fun _=>⟨_,ht,rfl⟩⟩,om,.le (by cbv;exact⟨lR,zE om,trivial⟩) (by cbv) rfl⟩
   ·cbv
    (refine rC ?_;cbv)
    exact zM (by rw[hvv,e4];rfl)
  ·cbv
   have hvv:=hv0 (by omega) e2 (h3 om)
   exact⟨zH om om,(i+1,some t.row),⟨om,hvv.trans hrest.symm,fun h=>absurd h (by simp),fun _=>⟨_,ht,rfl⟩⟩,om,.le (by cbv;exact⟨lR,zE om,trivial⟩) (by cbv) rfl⟩
 ·have:i=l.length:=by rw[zA] at h5;(try dsimp only [zG] at *);omega
  rw[this,List.drop_length] at hv
  have hv':r=true:=hv
  cbv
  (refine rC ?_;cbv)
  exact z7 hv'
def plM (r:Row) (q:Rat):List (Row × Rat)→List (Row × Rat)
 | []=>[(r,q)]
 | t::rest=>if wZ t.1 r=true then t::plM r q rest else if t.1=r then (r,t.2+q)::rest else (r,q)::t::rest
def plMq (l:List (Row × Rat)) (r:Row) (q:Rat):List (Row × Rat):=if yB q=0 then l else plM r q l
theorem zRL {l:List (Row × Rat)}{i:Nat}{t:Row × Rat}(h:l[i]?=some t):(mR l)[i]?=some ⟨t.1,zC t.2⟩:=by unfold mR;rw[List.getElem?_map,h];rfl
theorem zOH (l:List (Row × Rat))(n:Nat):(mR l).take n=mR (l.take n):=by simp [mR,List.map_take]
structure Mfit (k:Nat) (l:List (Row × Rat)):Prop where
 len:l.length<2^37
 fit:∀ t,t∈l→Fits k t.2
theorem iS {α:Type}{p:α→List PV}{n:Nat}(hn:∀ a,(p a).length=n)(l:List α)(a b:Nat):Wid n (fun _=>((enc p l).take a).drop b):=⟨fun e he=>(wN hn l).h e (List.mem_of_mem_take (List.mem_of_mem_drop he))⟩
theorem sPlM (l:List (Row × Rat))(r:Row)(c:R)(hl:Mfit (2^30) l)(hc:c.sz (2^30)):zB 69 [mlv (mR l),rwv r,rv c] (mlv (mR (plMq l r c.q))):=by
 refine sF Tryz.f69 ?_
 have cs:=s35 c (by have:=hc.n;omega)
 have cc:=s47 c (hc.mono (by decide))
 have hadd:∀ t,t∈l→zB 52 [rv (zC t.2),rv c] (rv (zC (t.2+c.q))):=fun t ht=>by
  have:=s44 (zC t.2) c ((zU (hl.fit t ht)).mono (by decide)) (hc.mono (by decide))
  rw[zY] at this
  exact this
 have hll:=hl.len
 have d0:yB c.q=0→plMq l r c.q=l:=fun h=>if_pos h
 have d1:¬ yB c.q=0→plMq l r c.q=plM r c.q l:=fun h=>if_neg h
 have hless:∀ t:Row × Rat,zB 135 [rwv t.1,rwv r] (.bool (fun _=>wZ t.1 r)):=fun t=>zPO t.1 r
 have hpn:plM r c.q []=[(r,c.q)]:=rfl
 have hpc:∀ t rest,plM r c.q (t::rest)=if wZ t.1 r=true then t::plM r c.q rest else if t.1=r then (r,t.2+c.q)::rest else (r,c.q)::t::rest:=fun _ _=>rfl
 obtain⟨G,hG⟩:∃ G,plM r c.q=G:=⟨_,rfl⟩
 rw[hG] at d1 hpn hpc
 generalize plMq l r c.q=M at *
 generalize yB c.q=sg at *
 generalize hcq:c.q=q at *
 clear hG hl hc hcq
 cbv
 refine cA cs ?_
 cbv
 refine zF (fun e0=>?_) (fun e0=>?_)
 ·have hM:=d0 e0
  cbv
  subst hM
  (refine rC ?_;cbv)
  exact lR
 have hM:=d1 e0
 clear d0 d1 cs
 cbv
 refine z4 (σ:=Nat) (fun i=>⟨[(0,mlv (mR l)),(4,.ptr 4 0),(5,.ptr 5 0),(7,.int .i64 (fun _=>(i:Int)))],[(4,.box (rwc r)),(5,.box [.bool (fun _=>c.neg),nat c.num,nat c.den])]⟩)
  (fun i=>i≤l.length∧M=l.take i++G (l.drop i)) (fun i=>l.length - i) 0 ⟨om,by rw[hM];rfl⟩ (.le ?_ ?_ rfl) ?_
 ·cbv
  exact okA
 ·cbv
  exact okA
 clear hM
 intro i hi
 obtain⟨h1,h2⟩:=hi
 have hml:=dJ l
 have wid:=wN w8 (mR (l.take i))
 have wid2:=wN w8 (mR l)
 by_cases hlt:i<l.length
 ·obtain⟨t,ht⟩:=zS hlt
  have hmem:=List.mem_of_getElem? ht
  have hdr:=yE ht
  rw[hdr,hpc] at h2
  have k1:wZ t.1 r=true→M=l.take (i+1)++G (l.drop (i+1)):=fun h=>by
   rw[h2,if_pos h,List.take_add_one,ht];simp
  have k2:wZ t.1 r=false→t.1=r→M=l.take i++([(r,t.2+q)]++l.drop (i+1)):=fun h g=>by
   rw[h2,if_neg (by rw[h];decide),if_pos g];rfl
  have k3:wZ t.1 r=false→¬ t.1=r→M=l.take i++([(r,q)]++l.drop i):=fun h g=>by
   rw[h2,if_neg (by rw[h];decide),if_neg g,hdr];rfl
  clear h2
  have cl:=hless t
  have ca:=hadd t hmem
  obtain⟨Y,hY⟩:∃ Y,zC t.2=Y:=⟨_,rfl⟩
  have hmt:=zRL ht
  rw[hY] at ca hmt
  have idx:∀ {K:List PV→Prop},K (mc ⟨t.1,Y⟩)→IdxOk 7 (fun _=>enc mc (mR l)) (fun _=>(i:Int)) K:=fun hK=>xB (l:=mR l) i rfl (by omega) jN w8 (fun m' hm'=>by rw[hmt] at hm';cases hm';exact hK)
  generalize wZ t.1 r=lt at *
  clear hless hadd hpc hpn
  cbv
  refine zO 13 (by cbv) ?_
  cbv
  refine xM (by rw[zA];(try dsimp only [zG] at *);omega) ?_
  cbv
  refine idx ?_
  cbv
  refine dA cl ?_
  cbv
  refine zV (fun e1=>?_) (fun e1=>?_)
  ·have hk:=k1 e1
   cbv
   exact⟨zH om om,i+1,⟨om,hk⟩,om,.le (by cbv;exact⟨lR,lR,lR,zE om,trivial⟩) (by cbv;exact okA) rfl⟩
  have k2':=k2 e1
  have k3':=k3 e1
  clear k1 k2 k3 cl
  cbv
  refine⟨vK om om (by rw[zA];(try dsimp only [zG] at *);omega),wN w8 _,?_⟩
  refine aN dX rfl rfl (iS w8 _ _ _) (yA (by simp <;> omega) (by simp [zA,hml];(try dsimp only [zG] at *);omega)) rfl ?_
  cbv
  refine zO 13 (by cbv) ?_
  cbv
  refine xM (by rw[zA];(try dsimp only [zG] at *);omega) ?_
  cbv
  refine idx ?_
  cbv
  refine zCO ?_
  cbv
  refine zF (fun e2=>?_) (fun e2=>?_)
  ·have hk:=k2' e2
   have hX:mR [(r,t.2+q)]=[⟨r,zC (t.2+q)⟩]:=rfl
   generalize zC (t.2+q)=X at *
   cbv
   refine zO 11 (by cbv) ?_
   cbv
   refine idx ?_
   cbv
   refine dA ca ?_
   cbv
   refine wV dX rfl rfl rfl (by simp) rfl ⟨by simp [zL,y8]⟩ (yA (by simp [zL] <;> omega) (by simp [zL,zA,hml];(try dsimp only [zG] at *);omega)) rfl ?_
   cbv
   refine⟨zH om om,?_⟩
   cbv
   refine⟨vK om (by rw[zA];(try dsimp only [zG] at *);omega) (by rw[zA];(try dsimp only [zG] at *);omega),wN w8 _,?_⟩
   refine wV dX rfl rfl rfl (by simp) rfl (iS w8 _ _ _) (yA (by simp [zL] <;> omega) (by simp [zL,zA,hml];(try dsimp only [zG] at *);omega)) rfl ?_
   cbv
   refine qW _ (.trans (.le (ps':=⟨[(6,.osl 71 7 (fun _=>0) (fun _=>M.length))],[(71,.arr 7 (fun _=>enc mc (mR M)))]⟩) ?_ ?_ rfl) (.frz 71 rfl rfl ?_ ?_)) rfl ?_
   ·cbv;exact⟨zW rfl (by rw[hk];simp [zL,zA,hml];(try dsimp only [zG] at *);omega),trivial⟩
   ·cbv
    refine⟨zI ?_,trivial⟩
    rw[hk,nJ,nJ,←zT,←zT,hX]
    simp [enc,mR,List.map_take,List.map_drop,List.take_of_length_le,zL]
    rfl
   ·cbv;exact⟨z8 (by simp [zA,dJ]),trivial⟩
   ·exact trivial
   ·cbv;exact zQ (List.take_of_length_le (by simp [zA,dJ]))
  ·have hk:=k3' e2
   have hX:mR [(r,q)]=[⟨r,zC q⟩]:=rfl
   generalize zC q=X at *
   cbv
   refine zO 6 (by cbv) ?_
   cbv
   refine dA cc ?_
   cbv
   refine wV dX rfl rfl rfl (by simp) rfl ⟨by simp [zL,y8]⟩ (yA (by simp [zL] <;> omega) (by simp [zL,zA,hml];(try dsimp only [zG] at *);omega)) rfl ?_
   cbv
   refine⟨vK om (by rw[zA];(try dsimp only [zG] at *);omega) (by rw[zA];(try dsimp only [zG] at *);omega),wN w8 _,?_⟩
   refine wV dX rfl rfl rfl (by simp) rfl (iS w8 _ _ _) (yA (by simp [zL] <;> omega) (by simp [zL,zA,hml];(try dsimp only [zG] at *);omega)) rfl ?_
   cbv
   refine qW _ (.trans (.le (ps':=⟨[(6,.osl 71 7 (fun _=>0) (fun _=>M.length))],[(71,.arr 7 (fun _=>enc mc (mR M)))]⟩) ?_ ?_ rfl) (.frz 71 rfl rfl ?_ ?_)) rfl ?_
   ·cbv;exact⟨zW rfl (by rw[hk];simp [zL,zA,hml];(try dsimp only [zG] at *);omega),trivial⟩
   ·cbv
    refine⟨zI ?_,trivial⟩
    rw[hk,nJ,nJ,←zT,←zT,hX]
    simp [enc,mR,List.map_take,List.map_drop,List.take_of_length_le,zL]
    rfl
   ·cbv;exact⟨z8 (by simp [zA,dJ]),trivial⟩
   ·exact trivial
   ·cbv;exact zQ (List.take_of_length_le (by simp [zA,dJ]))
 ·have hi':i=l.length:=by omega
  have hk:M=l.take i++([(r,q)]++l.drop i):=by rw[h2,hi',List.drop_length,hpn];simp
  have hX:mR [(r,q)]=[⟨r,zC q⟩]:=rfl
  generalize zC q=X at *
  clear h2 hpn hpc hless hadd
  cbv
  refine zO 13 (by cbv) ?_
  cbv
  refine z6 (by rw[zA];(try dsimp only [zG] at *);omega) ?_
  cbv
  refine⟨vK om om (by rw[zA];(try dsimp only [zG] at *);omega),wN w8 _,?_⟩
  refine aN dX rfl rfl (iS w8 _ _ _) (yA (by simp <;> omega) (by simp [zA,hml];(try dsimp only [zG] at *);omega)) rfl ?_
  cbv
  refine zO 13 (by cbv) ?_
  cbv
  refine z6 (by rw[zA];(try dsimp only [zG] at *);omega) ?_
  cbv
  refine zO 6 (by cbv) ?_
  cbv
  refine dA cc ?_
  cbv
  refine wV dX rfl rfl rfl (by simp) rfl ⟨by simp [zL,y8]⟩ (yA (by simp [zL] <;> omega) (by simp [zL,zA,hml];(try dsimp only [zG] at *);omega)) rfl ?_
  cbv
  refine⟨vK om (by rw[zA];(try dsimp only [zG] at *);omega) (by rw[zA];(try dsimp only [zG] at *);omega),wN w8 _,?_⟩
  refine wV dX rfl rfl rfl (by simp) rfl (iS w8 _ _ _) (yA (by simp [zL] <;> omega) (by simp [zL,zA,hml];(try dsimp only [zG] at *);omega)) rfl ?_
  cbv
  refine qW _ (.trans (.le (ps':=⟨[(6,.osl 71 7 (fun _=>0) (fun _=>M.length))],[(71,.arr 7 (fun _=>enc mc (mR M)))]⟩) ?_ ?_ rfl) (.frz 71 rfl rfl ?_ ?_)) rfl ?_
  ·cbv;exact⟨zW rfl (by rw[hk];simp [zL,zA,hml];(try dsimp only [zG] at *);omega),trivial⟩
  ·cbv
   refine⟨zI ?_,trivial⟩
   rw[hk,nJ,nJ,←zT,←zT,hX]
   simp [enc,mR,List.map_take,List.map_drop,List.take_of_length_le,zL]
   rfl
  ·cbv;exact⟨z8 (by simp [zA,dJ]),trivial⟩
  ·exact trivial
  ·cbv;exact zQ (List.take_of_length_le (by simp [zA,dJ]))
theorem zCA (r:Row)(q:Rat):∀ l,(plM r q l).length≤l.length+1
 | []=>by simp [plM]
 | t::rest=>by
  have:=zCA r q rest
  unfold plM
  split
  ·simp;omega
  ·split <;> simp
theorem zHP {r:Row}{q:Rat}{k m:Nat}(hq:Fits m q):∀ {l:List (Row × Rat)},(∀ t,t∈l→Fits k t.2)→∀ t,t∈plM r q l→Fits (k+m+1) t.2
 | [],_,t,h=>by
  have:t=(r,q):=by simpa [plM] using h
  rw[this];exact hq.mono (by omega)
 | a::rest,hl,t,h=>by
  unfold plM at h
  split at h
  ·rcases List.mem_cons.1 h with rfl | h
   ·exact (hl _ List.mem_cons_self).mono (by omega)
   ·exact zHP hq (fun u hu=>hl u (List.mem_cons_of_mem _ hu)) t h
  ·split at h
   ·rcases List.mem_cons.1 h with rfl | h
    ·exact (vA (hl a List.mem_cons_self) hq).mono (by omega)
    ·exact (hl t (List.mem_cons_of_mem _ h)).mono (by omega)
   ·rcases List.mem_cons.1 h with rfl | h
    ·exact hq.mono (by omega)
    ·exact (hl t h).mono (by omega)
theorem zEC {l:List (Row × Rat)}{r:Row}{q:Rat}{k m:Nat}(hq:Fits m q)(hl:∀ t,t∈l→Fits k t.2):∀ t,t∈plMq l r q→Fits (k+m+1) t.2:=fun t h=>by
 unfold plMq at h
 split at h
 ·exact (hl t h).mono (by omega)
 ·exact zHP hq hl t h
theorem zKH (l:List (Row × Rat))(r:Row)(q:Rat):(plMq l r q).length≤l.length+1:=by
 unfold plMq
 split
 ·omega
 ·exact zCA r q l

def exU:F:=F.sub (F.var 0) (F.num 1)
def exS:Scp:=⟨⟨⟨1,[fA exU],[fA (F.var 1)]⟩,⟨[R0],[zC 3],[]⟩,fA (F.var 1)⟩,[],[]⟩
def exT:Scp:=⟨exS.q,[⟨3,0,zC 4⟩],[]⟩
def nV:List Mult:=[⟨⟨1,0,0,0⟩,zC 1⟩]
def exHi:List Mult:=[⟨⟨2,0,0,0⟩,zC 1⟩]
def pX:List Mult:=[⟨⟨2,0,0,0⟩,zC 1⟩,⟨⟨4,0,0,0⟩,zC 1⟩]
theorem exV:exS.q.valid=true:=by decide +kernel
theorem exA:exS.lemB ⟨0,false,zC (-1),nV⟩=true:=by decide +kernel
theorem exB:exS.lemB ⟨0,false,R0,nV⟩=false:=by decide +kernel
theorem exC:exS.lemB ⟨0,true,zC 2,exHi⟩=true:=by decide +kernel
theorem exR:exT.refutes pX=true:=by decide +kernel
theorem exN:exS.refutes nV=false:=by decide +kernel
theorem exK:uE none pX=true:=by decide +kernel
theorem exSc:exT.scopeB=true:=by decide +kernel
theorem zGP:(zC 1).sz (2^20):=by have:=b7 1 (by decide) (by decide);exact this.mono (by decide)
theorem tY (z:Int)(h1:-1000≤z)(h2:z≤1000):(zC (z:Rat)).sz (2^20):=(b7 z h1 h2).mono (by decide)
theorem mZ {k:Nat}:R0.sz k:=⟨Nat.zero_le _,Nat.zero_le _⟩
theorem zRW:exU.fl (2^20) 1:=((wO 0).sub (wY fits_one)).mono (by decide) (by decide)
theorem sS {f:F}{k n:Nat}(h:f.fl k n)(hn:n<2^38):(fA f).sz k:=(h.fit hn).fA
theorem zH4:(F.var 1).fl (2^20) 1:=(wO 1).mono (by decide) (by decide)
theorem zG1:exS.q.sz (2^20) where
 g:=⟨⟨by show 1<_;decide,fun a ha=>by
   have:a=fA exU:=by simpa [exS] using ha
   rw[this];exact sS zRW (by decide)⟩,⟨by show 1<_;decide,fun a ha=>by
   have:a=fA (F.var 1):=by simpa [exS] using ha
   rw[this];exact sS zH4 (by decide)⟩⟩
 r:=⟨⟨by show 1<_;decide,fun a ha=>by
   have:a=R0:=by simpa [exS] using ha
   rw[this];exact mZ⟩,⟨by show 1<_;decide,fun a ha=>by
   have:a=zC 3:=by simpa [exS] using ha
   rw[this];exact tY 3 (by decide) (by decide)⟩,⟨by show 0<_;decide,fun a ha=>absurd ha (by simp [exS])⟩⟩
 goal:=sS zH4 (by decide)
theorem zDO:exS.sz (2^20):=⟨zG1,⟨by show 0<_;decide,fun a ha=>absurd ha (by simp [exS])⟩,⟨by show 0<_;decide,fun a ha=>absurd ha (by simp [exS]),fun a ha=>absurd ha (by simp [exS])⟩⟩
theorem zMH:exT.sz (2^20):=⟨zG1,⟨by show 1<_;decide,fun a ha=>by
  have:a=⟨3,0,zC 4⟩:=by simpa [exT] using ha
  rw[this];exact tY 4 (by decide) (by decide)⟩,⟨by show 0<_;decide,fun a ha=>absurd ha (by simp [exT]),fun a ha=>absurd ha (by simp [exT])⟩⟩
theorem zCN:Msz (2^20) nV:=⟨by show 1<_;decide,fun a ha=>by
 have:a=⟨⟨1,0,0,0⟩,zC 1⟩:=by simpa [nV] using ha
 rw[this];exact zGP⟩
theorem zOP:Msz (2^20) exHi:=⟨by show 1<_;decide,fun a ha=>by
 have:a=⟨⟨2,0,0,0⟩,zC 1⟩:=by simpa [exHi] using ha
 rw[this];exact zGP⟩
theorem exBoth_sz:Msz (2^20) pX:=⟨by show 2<_;decide,fun a ha=>by
 have:a=⟨⟨2,0,0,0⟩,zC 1⟩∨a=⟨⟨4,0,0,0⟩,zC 1⟩:=by simpa [pX] using ha
 rcases this with h | h <;> (rw[h];exact zGP)⟩
theorem zJ8:zB 60 [] (sv exS):=by
 refine sF Tryz.f60 ?_
 have cv0:=bY 0
 have cv1:=bY 1
 have c1:=s32 1 (by decide) (by decide)
 have c3:=s32 3 (by decide) (by decide)
 have cn:=pQ (zC ((1:Int):Rat))
 have hcn:∀ v:Int,Cn (F.var v).ts:=fun v=>⟨List.pairwise_singleton _ _,fun t ht=>by
  have:t=(v,1):=by simpa [F.var] using ht
  rw[this];show (1:Rat)≠0;decide⟩
 have cs:=eF (F.var 0).ts (zC 0) ⟨[],zC ((1:Int):Rat)⟩ (hcn 0) Cn.nil ⟨by decide,fun t ht=>((wO 0).t t ht).mono (by decide)⟩ (by rw[v5];exact mZ) ⟨⟨by show 0<_;decide,fun _ h=>absurd h (by simp)⟩,(tY 1 (by decide) (by decide)).mono (by decide)⟩ (by show 1+0<2^37;decide)
 rw[zY] at cs
 have e1:(A.f ⟨[],zC ((1:Int):Rat)⟩)=F.num 1:=by show (⟨[],(zC ((1:Int):Rat)).q⟩:F)=_;rw[zY];rfl
 rw[e1] at cs
 have e2:F.sub ⟨(F.var 0).ts,0⟩ (F.num 1)=exU:=rfl
 rw[e2] at cs
 have cs':zB 124 [av (fA (F.var 0)),av ⟨[],zC ((1:Int):Rat)⟩] (av (fA exU)):=cs
 have es:sv exS=.agg [.int .i64 (fun _=>1),alv [fA exU],alv [fA (F.var 1)],rlv [R0],rlv [zC ((3:Int):Rat)],alv [],tsv (fA (F.var 1)).ts,.bool (fun _=>(fA (F.var 1)).c.neg),nat (fA (F.var 1)).c.num,nat (fA (F.var 1)).c.den,dlv [],llv []]:=rfl
 rw[es]
 clear es e1 e2 cs hcn
 dsimp only [fv] at cv0 cv1
 generalize zC ((3:Int):Rat)=T at *
 generalize zC ((1:Int):Rat)=O at *
 generalize fA (F.var 0)=V0 at *
 generalize fA (F.var 1)=V1 at *
 generalize fA exU=U at *
 cbv
 refine cA cv0 ?_
 cbv
 refine cA c1 ?_
 cbv
 refine cA cn ?_
 cbv
 refine yQ rfl (by exact⟨okA,⟨zQ rfl,lR,lR,lR,trivial⟩,trivial⟩) cs' rfl ?_
 cbv
 refine qO 6 (by cbv) (by cbv) ?_
 cbv
 refine dA cv1 ?_
 cbv
 refine zO 9 (by cbv) ?_
 cbv
 refine dA c3 ?_
 cbv
 refine dA cv1 ?_
 cbv
 (refine rC ?_;cbv)
 exact⟨lR,zQ rfl,zQ rfl,zQ rfl,zQ rfl,yX rfl,lR,lR,lR,lR,yX rfl,yX rfl,trivial⟩
theorem qQ {b:Bool}{A B:Unit→Prop}(h:b=true)(h1:A ()):Br (fun _=>b) A B:=z5 (fun _=>h1) (fun g=>by rw[h] at g;cases g)
theorem pK {b:Bool}{A B:Unit→Prop}(h:b=false)(h1:B ()):Br (fun _=>b) A B:=z5 (fun g=>by rw[h] at g;cases g) (fun _=>h1)
theorem vH {b:Bool}{A B:(Exit→PS→Prop)→Prop}{Q:Exit→PS→Prop}(h:b=true)(h1:A Q):Cut (fun _=>b) A B Q:=zV (fun _=>h1) (fun g=>by rw[h] at g;cases g)
theorem cZ {b:Bool}{A B:(Exit→PS→Prop)→Prop}{Q:Exit→PS→Prop}(h:b=false)(h1:B Q):Cut (fun _=>b) A B Q:=zV (fun g=>by rw[h] at g;cases g) (fun _=>h1)
theorem zTF:zB 13 [] (.bool (fun _=>true)):=by
 refine sF Tryz.f13 ?_
 have ce:=zJ8
 have c1:=s32 1 (by decide) (by decide)
 have cm1:=s32 (-1) (by decide) (by decide)
 have c2:=s32 2 (by decide) (by decide)
 have c4:=s32 4 (by decide) (by decide)
 have ca:=tP exS ⟨0,false,zC (-1),nV⟩ zDO (tY (-1) (by decide) (by decide)) zCN (by decide)
 have cb:=tP exS ⟨0,false,R0,nV⟩ zDO mZ zCN (by decide)
 have cc:=tP exS ⟨0,true,zC 2,exHi⟩ zDO (tY 2 (by decide) (by decide)) zOP (by decide)
 have cr:=eN exT pX zMH exBoth_sz (by decide)
 have cn:=eN exS nV zDO zCN (by decide)
 have ck:=zLX pX (exBoth_sz.mono (by decide))
 have csc:=zJ9 exT zMH (fun m hm=>absurd hm (by simp [exT]))
 rw[exA] at ca
 rw[exB] at cb
 rw[exC] at cc
 rw[exR] at cr
 rw[exN] at cn
 rw[exK] at ck
 rw[exSc] at csc
 have eT:sv exT=.agg [.int .i64 (fun _=>exS.q.g.n),alv exS.q.g.us,alv exS.q.g.os,rlv exS.q.r.lo,rlv exS.q.r.hi,alv exS.q.r.rows,tsv exS.q.goal.ts,.bool (fun _=>exS.q.goal.c.neg),nat exS.q.goal.c.num,nat exS.q.goal.c.den,.sl (fun _=>[y8 [.int .i64 (fun _=>3),.int .i64 (fun _=>0),.bool (fun _=>(zC ((4:Int):Rat)).neg),nat (zC ((4:Int):Rat)).num,nat (zC ((4:Int):Rat)).den]]),llv []]:=rfl
 rw[eT] at cr csc
 clear eT
 have eLo:mlv nV=.sl (fun _=>[y8 [.int .i64 (fun _=>1),.int .i64 (fun _=>0),.int .i64 (fun _=>0),.int .i64 (fun _=>0),.bool (fun _=>(zC ((1:Int):Rat)).neg),nat (zC ((1:Int):Rat)).num,nat (zC ((1:Int):Rat)).den]]):=rfl
 have eHi:mlv exHi=.sl (fun _=>[y8 [.int .i64 (fun _=>2),.int .i64 (fun _=>0),.int .i64 (fun _=>0),.int .i64 (fun _=>0),.bool (fun _=>(zC ((1:Int):Rat)).neg),nat (zC ((1:Int):Rat)).num,nat (zC ((1:Int):Rat)).den]]):=rfl
 have eBo:mlv pX=.sl (fun _=>[y8 [.int .i64 (fun _=>2),.int .i64 (fun _=>0),.int .i64 (fun _=>0),.int .i64 (fun _=>0),.bool (fun _=>(zC ((1:Int):Rat)).neg),nat (zC ((1:Int):Rat)).num,nat (zC ((1:Int):Rat)).den],y8 [.int .i64 (fun _=>4),.int .i64 (fun _=>0),.int .i64 (fun _=>0),.int .i64 (fun _=>0),.bool (fun _=>(zC ((1:Int):Rat)).neg),nat (zC ((1:Int):Rat)).num,nat (zC ((1:Int):Rat)).den]]):=rfl
 have fa:lv' ⟨0,false,zC (-1),nV⟩=.agg [.int .i64 (fun _=>0),.bool (fun _=>false),.bool (fun _=>(zC ((-1:Int):Rat)).neg),nat (zC ((-1:Int):Rat)).num,nat (zC ((-1:Int):Rat)).den,mlv nV]:=rfl
 have fb:lv' ⟨0,false,R0,nV⟩=.agg [.int .i64 (fun _=>0),.bool (fun _=>false),.bool (fun _=>false),nat [],nat [],mlv nV]:=rfl
 have fc:lv' ⟨0,true,zC 2,exHi⟩=.agg [.int .i64 (fun _=>0),.bool (fun _=>true),.bool (fun _=>(zC ((2:Int):Rat)).neg),nat (zC ((2:Int):Rat)).num,nat (zC ((2:Int):Rat)).den,mlv exHi]:=rfl
 rw[fa,eLo] at ca
 rw[fb,eLo] at cb
 rw[fc,eHi] at cc
 rw[eBo] at cr ck
 rw[eLo] at cn
 have eT0:exS.path=[]:=rfl
 have eT1:exS.lems=[]:=rfl
 clear fa fb fc eLo eHi eBo
 generalize zC ((1:Int):Rat)=O at *
 generalize zC ((-1:Int):Rat)=N at *
 generalize zC ((2:Int):Rat)=T at *
 generalize zC ((4:Int):Rat)=Q at *
 generalize exS=S at *
 cbv
 refine cA ce ?_
 cbv
 refine jT [0,1] [1] rfl rfl okA (c1) rfl ?_
 cbv
 refine zO 10 (by cbv) ?_
 cbv
 refine bL 6 [1,2,3,4] [1,2] rfl (by cbv) ?_
 cbv
 refine dA cm1 ?_
 cbv
 refine dA ca ?_
 cbv
 refine jT [1,2,3,4,5,25,27] [1,2] rfl rfl okA (cb) rfl ?_
 cbv
 refine bL 6 [1,2,3,4,5,6] [1,2] rfl (by cbv) ?_
 cbv
 refine dA c2 ?_
 cbv
 refine dA cc ?_
 cbv
 refine jT [1,2,3,5,6,7,8] [1,2,8] rfl rfl okA (c4) rfl ?_
 cbv
 refine qQ rfl ?_
 cbv
 refine pK rfl ?_
 cbv
 refine qQ rfl ?_
 cbv
 refine jT [1,3,8,9,54,55,56] [1,8] rfl rfl (by exact⟨⟨lR,lR,lR,lR,lR,lR,lR,lR,lR,lR,zQ rfl,zQ (by rw[eT1]),trivial⟩,lR,trivial⟩) cr rfl ?_
 cbv
 refine qQ rfl ?_
 cbv
 refine jT [1,3,8,9,59,60,61] [8] rfl rfl okA (cn) rfl ?_
 cbv
 refine pK rfl ?_
 cbv
 refine jT [8,9,65,66] [8] rfl rfl okA (ck) rfl ?_
 cbv
 refine qQ rfl ?_
 cbv
 refine jT [69,70] [] rfl rfl (by exact⟨⟨lR,lR,lR,lR,lR,lR,lR,lR,lR,lR,zQ rfl,zQ (by rw[eT1]),trivial⟩,trivial⟩) csc rfl ?_
 cbv
 (refine rC ?_;cbv)
 exact lR
theorem zGL (a b:Row):wZ a b=true↔(a.k<b.k∨(a.k=b.k∧(a.i<b.i∨(a.i=b.i∧(a.lo<b.lo∨(a.lo=b.lo∧a.hi<b.hi)))))):=by
 unfold wZ
 split
 ·split
  ·split
   ·simp only[decide_eq_true_eq];omega
   ·simp only[decide_eq_true_eq];omega
  ·simp only[decide_eq_true_eq];omega
 ·simp only[decide_eq_true_eq];omega
theorem zKD {a b c:Row}(h:wZ a b=true)(g:wZ b c=true):wZ a c=true:=by rw[zGL] at *;omega
theorem zRB (a b:Row):wZ a b=true∨a=b∨wZ b a=true:=by
 rw[zGL,zGL]
 obtain⟨a1,a2,a3,a4⟩:=a
 obtain⟨b1,b2,b3,b4⟩:=b
 simp only[Row.mk.injEq]
 omega
structure Rs (l:List (Row × Rat)):Prop where
 s:l.Pairwise (fun a b=>wZ a.1 b.1=true)
 p:∀ t,t∈l→0<t.2
theorem Rs.nil:Rs []:=⟨.nil,by simp⟩
theorem Rs.tail {t l}(h:Rs (t::l)):Rs l:=⟨(List.pairwise_cons.1 h.s).2,fun u hu=>h.p u (List.mem_cons_of_mem _ hu)⟩
theorem Rs.lt {t l}(h:Rs (t::l)):∀ u,u∈l→wZ t.1 u.1=true:=(List.pairwise_cons.1 h.s).1
theorem Rs.hd {t l}(h:Rs (t::l)):0<t.2:=h.p t List.mem_cons_self
theorem Rs.cons {t l}(h:Rs l)(h1:∀ u,u∈l→wZ t.1 u.1=true)(h2:0<t.2):Rs (t::l) :=
 ⟨List.pairwise_cons.2 ⟨h1,h.s⟩,fun u hu=>by rcases List.mem_cons.1 hu with rfl | hu <;> first | exact h2 | exact h.p u hu⟩
def cor:List (Row × Rat)→Row→Rat
 | [],_=>0
 | t::r,w=>(if t.1=w then t.2 else 0)+cor r w
theorem zR5 (a b:Row):j7 a b<0↔wZ a b=true:=by rw[zAV,decide_eq_true_eq]
theorem iC {q:Rat}:0<yB q↔0<q:=by unfold yB;split <;> (try split) <;> grind
theorem zBY {q:Rat}:yB q<0↔q<0:=by unfold yB;split <;> (try split) <;> grind
theorem zIH {q:Rat}:yB q=0↔q=0:=by unfold yB;split <;> (try split) <;> grind
theorem zHO {r:Row}{q:Rat}:∀ {l:List (Row × Rat)} {u},u∈plM r q l→u.1=r∨∃ t,t∈l∧t.1=u.1
 | [],u,h=>by
  have:u=(r,q):=by simpa [plM] using h
  rw[this];exact .inl rfl
 | t::rest,u,h=>by
  unfold plM at h
  split at h
  ·rcases List.mem_cons.1 h with rfl | h
   ·exact .inr ⟨u,List.mem_cons_self,rfl⟩
   ·rcases zHO h with h | ⟨v,h1,h2⟩
    ·exact .inl h
    ·exact .inr ⟨v,List.mem_cons_of_mem _ h1,h2⟩
  ·split at h
   ·rcases List.mem_cons.1 h with rfl | h
    ·exact .inl rfl
    ·exact .inr ⟨u,List.mem_cons_of_mem _ h,rfl⟩
   ·rcases List.mem_cons.1 h with rfl | h
    ·exact .inl rfl
    ·exact .inr ⟨u,h,rfl⟩
theorem zLY {r:Row}{q:Rat}(hq:0<q):∀ {l:List (Row × Rat)},Rs l→Rs (plM r q l)
 | [],_=>Rs.nil.cons (by simp) hq
 | t::rest,h=>by
  unfold plM
  split
  ·rename_i hlt
   refine (zLY hq h.tail).cons (fun u hu=>?_) h.hd
   rcases zHO hu with e | ⟨v,h1,h2⟩
   ·rw[e];exact hlt
   ·rw[←h2];exact h.lt v h1
  ·rename_i hlt
   split
   ·rename_i e
    have:=h.hd
    exact h.tail.cons (fun u hu=>by rw[←e];exact h.lt u hu) (by show 0<t.2+q;grind)
   ·rename_i e
    have hlt':wZ r t.1=true:=by
     rcases zRB r t.1 with c | c | c
     ·exact c
     ·exact absurd c.symm e
     ·exact absurd c hlt
    refine h.cons (fun u hu=>?_) hq
    rcases List.mem_cons.1 hu with rfl | hu
    ·exact hlt'
    ·exact zKD hlt' (h.lt u hu)
theorem zOE {l:List (Row × Rat)}{r:Row}{q:Rat}(h:Rs l)(hq:0≤q):Rs (plMq l r q):=by
 unfold plMq
 split
 ·exact h
 ·rename_i e
  rw[zIH] at e
  exact zLY (by grind) h
theorem iP:∀ {l:List (Row × Rat)} {p:Option Row},Rs l→(∀ w,p=some w→∀ t,t∈l→wZ w t.1=true)→uE p (mR l)=true
 | [],p,_,_=>by cases p <;> rfl
 | t::r,none,h,hp=>by
  show (decide (0<yB (zC t.2).q) && ((zC t.2).ok && (true && uE (some t.1) (mR r))))=true
  rw[zY,rH,decide_eq_true (iC.2 h.hd),iP h.tail (fun w e u hu=>by cases e;exact h.lt u hu)]
  rfl
 | t::r,some w,h,hp=>by
  show (decide (0<yB (zC t.2).q) && ((zC t.2).ok && (decide (j7 w t.1<0) && uE (some t.1) (mR r))))=true
  rw[zY,rH,decide_eq_true (iC.2 h.hd),iP h.tail (fun w e u hu=>by cases e;exact h.lt u hu),decide_eq_true ((zR5 _ _).2 (hp w rfl t List.mem_cons_self))]
  rfl

abbrev InW (w:World) (b i:Nat):Prop:=b<w.heap.size
def Cs (w:World):List Value→List D→Prop
 | [],[]=>True
 | v::vs,d::ds=>(RepD w (InW w) v d∧v.oneCell'=true)∧Cs w vs ds
 | _,_=>False
theorem Cs.app {w}:∀ {a x b y},Cs w a x→Cs w b y→Cs w (a++b) (x++y)
 | [],[],_,_,_,h=>h
 | _::_,_::_,_,_,h,g=>⟨h.1,Cs.app h.2 g⟩
theorem Cs.len {w}:∀ {a x},Cs w a x→a.length=x.length
 | [],[],_=>rfl
 | _::_,_::_,h=>by simp [Cs.len h.2]
theorem Cs.get {w}:∀ {a x},Cs w a x→∀ j,j<x.length→RepD w (InW w) (a.getD j undef) (x.getD j .any)∧(a.getD j undef).oneCell'=true
 | [],[],_,j,hj=>absurd hj (by simp)
 | _::_,_::_,h,0,_=>h.1
 | _::_,_::_,h,j+1,hj=>by simpa using Cs.get h.2 j (by simpa using hj)
theorem dH:∀ (a b:List PV),y8 (a++b)=y8 a++y8 b
 | [],_=>rfl
 | _::a,b=>by simp [y8,dH a b]
structure ElR (w:World) (t:TypeId) (k:Nat) {α:Type} (G:α→Prop) (p:α→List PV):Prop where
 sz:Tryz.prog.cellsOf t=k
 rd:∀ {H:Type} {enc:TypeId × Value→H} {sp:Nat→Bool} {n:Nat} {cs:List Value} {x:DataW H × List MemPlace},DataW.trod enc Tryz.prog w 0 sp true n t cs=some x→∃ a,G a∧Cs w cs (y8 (p a))
theorem ElR.map {w t k}{α β:Type}{G:α→Prop}{p:α→List PV}{G':β→Prop}{p':β→List PV}(h:ElR w t k G p)(f:α→β)(hp:∀ a,G a→y8 (p' (f a))=y8 (p a))(hG:∀ a,G a→G' (f a)):ElR w t k G' p' :=
 ⟨h.sz,fun hx=>by
  obtain⟨a,h1,h2⟩:=h.rd hx
  exact⟨f a,hG a h1,by rw[hp a h1];exact h2⟩⟩
theorem zJN {w t}{k:IntKind}(ht:Tryz.prog.underlying t=some (.int k))(hs:Tryz.prog.cellsOf t=1):ElR w t 1 (fun n=>(Lit.int k n).wf=true) (fun n=>[.int k (fun _=>n)]) :=
 ⟨hs,fun {H enc sp n cs x} hx=>by
  cases n with
  | zero=>simp [DataW.trod] at hx
  | succ n =>
   unfold DataW.trod at hx
   rw[ht] at hx
   split at hx <;> simp_all
   obtain⟨⟨rfl,h2⟩,_⟩:=hx
   exact⟨_,h2,⟨.int _ _,rfl⟩,trivial⟩⟩
theorem zRY {w t}(ht:Tryz.prog.underlying t=some .bool)(hs:Tryz.prog.cellsOf t=1):ElR w t 1 (fun _=>True) (fun b=>[.bool (fun _=>b)]) :=
 ⟨hs,fun {H enc sp n cs x} hx=>by
  cases n with
  | zero=>simp [DataW.trod] at hx
  | succ n =>
   unfold DataW.trod at hx
   rw[ht] at hx
   split at hx
   ·exact⟨_,trivial,⟨.bool _,rfl⟩,trivial⟩
   all_goals simp_all⟩
theorem zR9 {b o n:Nat}:(⟨b,o,none⟩:Addr).add n=⟨b,o+n,none⟩:=by
 unfold Addr.add
 split
 ·rename_i h;rw[h];rfl
 ·rfl
theorem iL {w t e k}{α:Type}{G:α→Prop}{p:α→List PV}(ht:Tryz.prog.underlying t=some (.slice e))(hs:Tryz.prog.cellsOf t=1)(hk:0<k)(he:ElR w e k G p) :
  ElR w t 1 (fun l:List α=>(∀ a,a∈l→G a)∧l.length≤maxLen) (fun l=>[.sl (fun _=>enc p l)]) :=
 ⟨hs,fun {H enc' sp n cs x} hx=>by
  rcases Go.Deep.open_slice ht hx with ⟨rfl,_⟩ | ⟨a,len,cap,m,n',D,Pl,rfl,hb,hl,hm,hmm,_,hi⟩
  ·exact⟨[],⟨fun _ h=>absurd h (by simp),Nat.zero_le _⟩,⟨.sl0 _ _,rfl⟩,trivial⟩
  have hlm:len≤m:=by rw[hmm];split <;> omega
  rcases Nat.eq_zero_or_pos len with h0 | h0
  ·subst h0
   exact⟨[],⟨fun _ h=>absurd h (by simp),Nat.zero_le _⟩,⟨.sl0 _ _,rfl⟩,trivial⟩
  rw[he.sz] at hi
  have key:∀ i,i<len→∃ y:List Value × α,w.cells? 0 (a.add (i * k)) k=some y.1∧G y.2∧Cs w y.1 (y8 (p y.2)):=fun i hil=>by
   obtain⟨cs',h1,h2⟩:=hi i (by omega)
   obtain⟨y,g1,g2⟩:=he.rd h2
   exact⟨(cs',y),h1,g1,g2⟩
  haveI:Inhabited (List Value × α):=⟨Classical.choose (key 0 h0)⟩
  obtain⟨Y,hY⟩:=Go.Deep.choose_lt key
  have hcell:∀ i j,i<len→j<k→w.cell? (a.add (i * k+j))=some ((Y i).1.getD j undef):=fun i j hi' hj=>by
   obtain⟨h1,_,_⟩:=hY i hi'
   obtain⟨_,h2,h3⟩:=World.cells?_some h1
   have:=h3 j hj
   rw[Go.Deep.add_add] at this
   rw[this,List.getD_eq_getElem?_getD]
   have:j<(Y i).1.length:=by omega
   simp [this]
  obtain⟨b,o,sp'⟩:=a
  have hsp:sp'=none:=by
   have:=hcell 0 0 h0 hk
   unfold World.cell? at this
   split at this
   ·cases sp' with
    | none=>rfl
    | some s=>simp [Addr.add] at this
   ·cases this
  subst hsp
  have hS:b<w.heap.size:=World.cells?_block (a:=⟨b,o,none⟩) (by
   have:=(hY 0 h0).1
   rw[Nat.zero_mul] at this
   exact this) hk
  have hlen:((List.range len).map fun i=>(Y i).2).length=len:=by simp
  have hel:∀ i,i<len→(enc p ((List.range len).map fun i=>(Y i).2)).getD i []=y8 (p (Y i).2):=fun i hi'=>by
   simp [Go.Proofs.YtgcpehdkdnkgeaaGreat.enc,hi']
  refine⟨(List.range len).map fun i=>(Y i).2,⟨fun z hz=>?_,by rw[hlen];omega⟩,⟨?_,rfl⟩,trivial⟩
  ·obtain⟨i,hi',rfl⟩:=List.mem_map.1 hz
   exact (hY i (List.mem_range.1 hi')).2.1
  have hel2:(enc p ((List.range len).map fun i=>(Y i).2)).length=len:=by rw[zA,hlen]
  have hk':∀ i,i<len→(y8 (p (Y i).2)).length=k:=fun i hi'=>by
   obtain⟨h1,_,h3⟩:=hY i hi'
   obtain⟨_,h2,_⟩:=World.cells?_some h1
   rw[←h3.len]
   exact h2
  have:=RepD.sl (w:=w) (S:=InW w) (b:=b) (o:=o) (cap:=cap) (s:=k) (els:=enc p ((List.range len).map fun i=>(Y i).2)) (fun i j=>(Y i).1.getD j undef)
   (fun h=>by rw[h] at hel2;simp at hel2;omega) (by rw[hel2];exact hl) (fun _ _ _ _=>hS)
   (fun e' he'=>by
    obtain⟨z,hz,rfl⟩:=List.mem_map.1 he'
    obtain⟨i,hi',rfl⟩:=List.mem_map.1 hz
    exact hk' i (List.mem_range.1 hi'))
   (fun i j hi' hj=>by
    rw[hel2] at hi'
    have:=hcell i j hi' hj
    rw[zR9] at this
    rw[Nat.add_assoc]
    exact this)
   (fun i j hi' hj=>by
    rw[hel2] at hi'
    exact ((hY i hi').2.2.get j (by rw[hk' i hi'];exact hj)).2)
   (fun i j hi' hj=>by
    rw[hel2] at hi'
    rw[hel i hi']
    exact ((hY i hi').2.2.get j (by rw[hk' i hi'];exact hj)).1)
  rw[hel2] at this
  exact this⟩
theorem ElR.cut {w t k}{α:Type}{G:α→Prop}{p:α→List PV}(h:ElR w t k G p){H:Type}{enc:TypeId × Value→H}{sp:Nat→Bool}{n o:Nat}{cs:List Value}{x:DataW H × List MemPlace}
  (hx:DataW.trod enc Tryz.prog w 0 sp true n t ((cs.drop o).take (Tryz.prog.cellsOf t))=some x):∃ a,G a∧Cs w ((cs.drop o).take k) (y8 (p a)):=by
 rw[h.sz] at hx
 exact h.rd hx
theorem elS2 {w t k0 k1}{f0 f1:Field}{α0 α1:Type}{G0:α0→Prop}{p0:α0→List PV}{G1:α1→Prop}{p1:α1→List PV}(ht:Tryz.prog.underlying t=some (.struct #[f0,f1]))(hs:Tryz.prog.cellsOf t=k0+k1)
  (o0:f0.offset=0) (o1:f1.offset=k0) (h0:ElR w f0.type k0 G0 p0) (h1:ElR w f1.type k1 G1 p1):ElR w t (k0+k1) (fun a:α0 × α1=>G0 a.1∧G1 a.2) (fun a=>p0 a.1++p1 a.2) :=
 ⟨hs,fun hx=>by
  obtain⟨y0,y1,n,_,hl,g0,g1⟩:=Go.ChangeShapes.trod_struct2 ht hx
  obtain⟨a0,u0,v0⟩:=h0.cut g0
  obtain⟨a1,u1,v1⟩:=h1.cut g1
  rw[o0,List.drop_zero] at v0
  rw[o1,List.take_of_length_le (by rw[List.length_drop,hl,hs];omega)] at v1
  have:=v0.app v1
  rw[List.take_append_drop] at this
  exact⟨(a0,a1),⟨u0,u1⟩,by rw[dH];exact this⟩⟩
theorem elS3 {w t k0 k1 k2}{f0 f1 f2:Field}{α0 α1 α2:Type}{G0:α0→Prop}{p0:α0→List PV}{G1:α1→Prop}{p1:α1→List PV}{G2:α2→Prop}{p2:α2→List PV}(ht:Tryz.prog.underlying t=some (.struct #[f0,f1,f2]))(hs:Tryz.prog.cellsOf t=k0+(k1+k2))
  (o0:f0.offset=0) (o1:f1.offset=k0) (o2:f2.offset=k0+k1) (h0:ElR w f0.type k0 G0 p0) (h1:ElR w f1.type k1 G1 p1) (h2:ElR w f2.type k2 G2 p2) :
  ElR w t (k0+(k1+k2)) (fun a:α0 × α1 × α2=>G0 a.1∧G1 a.2.1∧G2 a.2.2) (fun a=>p0 a.1++(p1 a.2.1++p2 a.2.2)) :=
 ⟨hs,fun {H enc sp m cs x} hx=>by
  obtain⟨y0,y1,y2,n,_,hl,g0,g1,g2⟩:=Go.Deep.trod_struct3 ht hx
  obtain⟨a0,u0,v0⟩:=h0.cut g0
  obtain⟨a1,u1,v1⟩:=h1.cut g1
  obtain⟨a2,u2,v2⟩:=h2.cut g2
  rw[o0,List.drop_zero] at v0
  rw[o1] at v1
  rw[o2,List.take_of_length_le (by rw[List.length_drop,hl,hs];omega)] at v2
  rw[←List.drop_drop] at v2
  have e1:=v1.app v2
  rw[List.take_append_drop] at e1
  have:=v0.app e1
  rw[List.take_append_drop] at this
  exact⟨(a0,a1,a2),⟨u0,u1,u2⟩,by rw[dH,dH];exact this⟩⟩
theorem elS4 {w t k0 k1 k2 k3}{f0 f1 f2 f3:Field}{α0 α1 α2 α3:Type}{G0:α0→Prop}{p0:α0→List PV}{G1:α1→Prop}{p1:α1→List PV}{G2:α2→Prop}{p2:α2→List PV}{G3:α3→Prop}{p3:α3→List PV}(ht:Tryz.prog.underlying t=some (.struct #[f0,f1,f2,f3]))(hs:Tryz.prog.cellsOf t=k0+(k1+(k2+k3)))
  (o0:f0.offset=0) (o1:f1.offset=k0) (o2:f2.offset=k0+k1) (o3:f3.offset=k0+k1+k2) (h0:ElR w f0.type k0 G0 p0) (h1:ElR w f1.type k1 G1 p1) (h2:ElR w f2.type k2 G2 p2) (h3:ElR w f3.type k3 G3 p3) :
  ElR w t (k0+(k1+(k2+k3))) (fun a:α0 × α1 × α2 × α3=>G0 a.1∧G1 a.2.1∧G2 a.2.2.1∧G3 a.2.2.2) (fun a=>p0 a.1++(p1 a.2.1++(p2 a.2.2.1++p3 a.2.2.2))) :=
 ⟨hs,fun {H enc sp m cs x} hx=>by
  obtain⟨y0,y1,y2,y3,n,_,hl,g0,g1,g2,g3⟩:=Go.Joins.trod_struct4 ht hx
  obtain⟨a0,u0,v0⟩:=h0.cut g0
  obtain⟨a1,u1,v1⟩:=h1.cut g1
  obtain⟨a2,u2,v2⟩:=h2.cut g2
  obtain⟨a3,u3,v3⟩:=h3.cut g3
  rw[o0,List.drop_zero] at v0
  rw[o1] at v1
  rw[o2,←List.drop_drop] at v2
  rw[o3,List.take_of_length_le (by rw[List.length_drop,hl,hs];omega),←List.drop_drop,←List.drop_drop] at v3
  have e2:=v2.app v3
  rw[List.take_append_drop] at e2
  have e1:=v1.app e2
  rw[List.take_append_drop] at e1
  have:=v0.app e1
  rw[List.take_append_drop] at this
  exact⟨(a0,a1,a2,a3),⟨u0,u1,u2,u3⟩,by rw[dH,dH,dH];exact this⟩⟩
theorem rInt (w:World):ElR w 3 1 (fun n=>(Lit.int .i64 n).wf=true) (fun n=>[.int .i64 (fun _=>n)]):=zJN Tryz.underlying3 (by kernel_rfl)
theorem zPQ (w:World):ElR w 4 1 (fun _=>True) (fun b=>[.bool (fun _=>b)]):=zRY Tryz.underlying4 (by kernel_rfl)
theorem rU32 (w:World):ElR w 163 1 (fun _=>True) (fun x:UInt32=>[.int .u32 (fun _=>(x.toNat:Int))]) :=
 (zJN (k:=.u32) Tryz.underlying163 (by kernel_rfl)).map (fun n=>UInt32.ofNat n.toNat) (fun n h=>by
  have:0≤n∧n≤4294967295:=by simpa [Lit.wf,IntKind.min,IntKind.max,IntKind.signed,IntKind.bits] using h
  have e:((UInt32.ofNat n.toNat).toNat:Int)=n:=by
   rw[UInt32.toNat_ofNat_of_lt' (by show n.toNat<4294967296;omega)]
   omega
  show [D.int .u32 _]=[D.int .u32 _]
  rw[e]) (fun _ _=>trivial)
theorem rNat (w:World):ElR w 24 1 (fun _=>True) (fun l=>[nat l]) :=
 (iL (k:=1) Tryz.underlying24 (by kernel_rfl) (by decide) (rU32 w)).map (fun l=>l) (fun l _=>rfl) (fun _ _=>trivial)
theorem rRat (w:World):ElR w 26 3 (fun _=>True) (fun x:R=>[.bool (fun _=>x.neg),nat x.num,nat x.den]) :=
 (elS3 (k0:=1) (k1:=1) (k2:=1) Tryz.underlying26 (by kernel_rfl) rfl rfl rfl (zPQ w) (rNat w) (rNat w)).map (fun a=>⟨a.1,a.2.1,a.2.2⟩) (fun _ _=>rfl) (fun _ _=>trivial)
theorem rRow (w:World):ElR w 69 4 (fun _=>True) (fun r:Row=>[.int .i64 (fun _=>r.k),.int .i64 (fun _=>r.i),.int .i64 (fun _=>r.lo),.int .i64 (fun _=>r.hi)]) :=
 (elS4 (k0:=1) (k1:=1) (k2:=1) (k3:=1) Tryz.underlying69 (by kernel_rfl) rfl rfl rfl rfl (rInt w) (rInt w) (rInt w) (rInt w)).map (fun a=>⟨a.1,a.2.1,a.2.2.1,a.2.2.2⟩) (fun _ _=>rfl) (fun _ _=>trivial)
end Go.Proofs.YtgcpehdkdnkgeaaGreat
