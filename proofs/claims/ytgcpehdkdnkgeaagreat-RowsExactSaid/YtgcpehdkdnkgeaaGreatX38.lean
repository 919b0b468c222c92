/- A part of the proof: EvE, LxP, TxA, RsA. -/
import Derived.Test.YtgcpehdkdnkgeaaGreatX37
import Derived.Test.YtgcpehdkdnkgeaaGreatX36
import Derived.Test.YtgcpehdkdnkgeaaGreatX30
import Derived.Test.YtgcpehdkdnkgeaaGreatX25
import Derived.Test.YtgcpehdkdnkgeaaGreatX21
import Derived.Test.YtgcpehdkdnkgeaaGreatX23
import Derived.Test.YtgcpehdkdnkgeaaGreatX35
set_option linter.all false
namespace Go.Proofs.YtgcpehdkdnkgeaaGreat
open Go
set_option maxRecDepth 100000
set_option maxHeartbeats 4000000
def l4 (x:FQry) (l:List Rat) (i:Int):Rat:=((x.g.us[i.toNat]?).map fun f=>f.at (xr (xJ x.g.us l))).getD 0
def uA (x:FQry) (d:Dec) (l:List Rat):Bool :=
 d.fits x.q && (if d.k=3 then decide (0≤y7 (xr l d.i) d.x.q) else if d.k=4 then decide (y7 (xr l d.i) d.x.q≤0) else if d.k=1 then decide (0≤yB (l4 x l d.i)) else decide (yB (l4 x l d.i)≤0))
structure InpOk (x:FQry) (l:List Rat):Prop where
 len:l.length=x.g.n
 fit:∀ q,q∈l→Fits 20 q
theorem zDJ {x:FQry}{d:Dec}(h:d.fits x.q=true)(hk:d.k=3∨d.k=4):0≤d.i∧d.i<(x.g.n:Int):=by
 unfold Dec.fits at h
 rw[if_neg (by omega),if_pos hk] at h
 simp only[Bool.and_eq_true,decide_eq_true_eq] at h
 exact h.1
theorem zGZ {x:FQry}{d:Dec}(h:d.fits x.q=true)(hk:¬ (d.k=3∨d.k=4)):(d.k=1∨d.k=2)∧0≤d.i∧d.i<(x.g.us.length:Int):=by
 unfold Dec.fits at h
 split at h
 ·rename_i h12
  simp only[Bool.and_eq_true,decide_eq_true_eq] at h
  have e:x.q.g.us.length=x.g.us.length:=by show (List.map _ _).length=_;rw[List.length_map]
  exact⟨h12,h.1.1,by rw[←e];exact h.1.2⟩
 ·cases h
theorem zD6 (x:FQry)(d:Dec)(l:List Rat)(hx:x.small)(hok:x.ok)(hd:d.x.sz (2^20))(hl:InpOk x l):zB 45 [qv x.q,dv d,rlv (l.map zC)] (.bool (fun _=>uA x d l)):=by
 refine sF Tryz.f45 ?_
 have hv:=hx.valid hok
 have hz:=hx.sz
 have cf:=zMU x.q d (hz.mono (by decide)) (hd.mono (by decide))
 rw[hv,Bool.true_and] at cf
 have hgv:x.g.g.valid=true:=by
  have:=hv
  unfold Qry.valid at this
  simp only[Bool.and_eq_true] at this
  exact this.1.1
 have cp:=zHL x.g l hx.g hgv (hz.g.mono (by decide)) hok.us hl.len (m:=20) (by decide) (by decide) hl.fit
 have n2:=hx.g.n2
 have hll:=hl.len
 generalize hres:uA x d l=res
 have r0:res=(d.fits x.q && (if d.k=3 then decide (0≤y7 (xr l d.i) d.x.q) else if d.k=4 then decide (y7 (xr l d.i) d.x.q≤0) else if d.k=1 then decide (0≤yB (l4 x l d.i)) else decide (yB (l4 x l d.i)≤0))):=hres.symm
 have f1:d.fits x.q=false→res=false:=fun h=>by rw[r0,h];rfl
 have c34:d.fits x.q=true→(d.k=3∨d.k=4)→∃ (i:Nat) (q:R) (z:Int),d.i=(i:Int)∧(l.map zC)[i]?=some q∧zB 54 [rv q,rv d.x] (.int .i64 (fun _=>z))∧(d.k=3→res=decide (0≤z))∧(d.k=4→res=decide (z≤0)):=fun h hk=>by
  obtain⟨h1,h2⟩:=zDJ h hk
  obtain⟨q,hq⟩:=zS (l:=l) (i:=d.i.toNat) (by omega)
  have hi:d.i=((d.i.toNat:Nat):Int):=by omega
  have c:=s42 (zC q) d.x ((zU (hl.fit q (List.mem_of_getElem? hq))).mono (by decide)) (hd.mono (by decide))
  rw[zY] at c
  have hxr:xr l d.i=q:=by rw[hi];exact aV hq
  refine⟨d.i.toNat,zC q,_,hi,by rw[List.getElem?_map,hq];rfl,c,fun h3=>?_,fun h4=>?_⟩
  ·rw[r0,h,Bool.true_and,if_pos h3,hxr]
  ·rw[r0,h,Bool.true_and,if_neg (by omega),if_pos h4,hxr]
 have hpl:((x.g.us.map fun f=>f.at (xr (xJ x.g.us l))).map zC).length=x.g.us.length:=by rw[List.length_map,List.length_map]
 have c12:d.fits x.q=true→¬ (d.k=3∨d.k=4)→∃ (i:Nat) (p:R) (z:Int),d.i=(i:Int)∧((x.g.us.map fun f=>f.at (xr (xJ x.g.us l))).map zC)[i]?=some p∧zB 33 [rv p] (.int .i64 (fun _=>z))∧(d.k=1→res=decide (0≤z))∧(¬ d.k=1→res=decide (z≤0)):=fun h hk=>by
  obtain⟨h0,h1,h2⟩:=zGZ h hk
  obtain⟨f,hfi⟩:=zS (l:=x.g.us) (i:=d.i.toNat) (by omega)
  have hi:d.i=((d.i.toNat:Nat):Int):=by omega
  have hg:(x.g.us.map fun f=>f.at (xr (xJ x.g.us l)))[d.i.toNat]?=some (f.at (xr (xJ x.g.us l))):=by rw[List.getElem?_map,hfi];rfl
  have hwf:=hok.us _ f hfi
  have hlt:=(List.getElem?_eq_some_iff.1 hfi).1
  have hvl:(xJ x.g.us l).length=x.g.n+x.g.us.length:=by rw[gK,hll]
  obtain⟨V,Q⟩:=vseq hx.g hok.us hll (m:=20) (by decide) (by decide) hl.fit
  have hft:Fits (2^28) (f.at (xr (xJ x.g.us l))):=by
   have:=uQ (hx.g.uf f (List.mem_of_getElem? hfi)) (gI (l:=xJ x.g.us l) (hwf.mono (by rw[hvl];omega)) (fun q hq=>Q.fit x.g.us.length q (by rw[Q.v9];exact hq)))
   exact this.mono (by decide)
  have c:=s35 (zC (f.at (xr (xJ x.g.us l)))) (Nat.lt_of_le_of_lt (zU hft).n (by decide))
  rw[zY] at c
  have hp:l4 x l d.i=f.at (xr (xJ x.g.us l)):=by unfold l4;rw[hfi];rfl
  refine⟨d.i.toNat,_,_,hi,by rw[List.getElem?_map,hg];rfl,c,fun h3=>?_,fun h4=>?_⟩
  ·rw[r0,h,Bool.true_and,if_neg (by omega),if_neg (by omega),if_pos h3,hp]
  ·rw[r0,h,Bool.true_and,if_neg (by omega),if_neg (by omega),if_neg h4,hp]
 have hXl:(l.map zC).length=x.g.n:=by rw[List.length_map,hll]
 have hgn:x.q.g.n=(x.g.n:Int):=rfl
 have hgg:x.g.g=x.q.g:=rfl
 rw[hgg] at cp
 clear r0 hres hl hx hok hz hv hgv hd hll hpl hgg
 generalize (x.g.us.map fun f=>f.at (xr (xJ x.g.us l))).map zC=PV' at *
 generalize l.map zC=X at *
 generalize d.fits x.q=fb at *
 generalize x.g.n=n at *
 generalize x.q=Q at *
 obtain⟨⟨gn,us,os⟩,⟨lo,hi,rows⟩,⟨ts,c⟩⟩:=Q
 dsimp only at hgn
 subst hgn
 obtain⟨dk,di,dx⟩:=d
 dsimp only at c34 c12
 cbv
 refine cA cf ?_
 cbv
 refine z5 (fun e1=>?_) (fun e1=>?_)
 rotate_left
 ·have hr:=f1 e1
  cbv
  (refine rC ?_;cbv)
  exact zM hr
 cbv
 refine zF (fun e=>?_) (fun e=>(e (by rw[zA,hXl])).elim)
 cbv
 refine zF (fun e3=>?_) (fun e3=>?_)
 ·obtain⟨i,q,z,hi',g1,c1,k3,k4⟩:=c34 e1 (.inl om)
  have hr:=k3 om
  clear c34 c12
  cbv
  refine zO 10 (by cbv) ?_
  cbv
  refine xC g1 hi' yU xE ?_
  cbv
  refine dA c1 ?_
  cbv
  (refine rC ?_;cbv)
  exact zX hr.symm
 cbv
 refine zF (fun e4=>?_) (fun e4=>?_)
 ·obtain⟨i,q,z,hi',g1,c1,k3,k4⟩:=c34 e1 (.inr om)
  have hr:=k4 om
  clear c34 c12
  cbv
  refine zO 10 (by cbv) ?_
  cbv
  refine xC g1 hi' yU xE ?_
  cbv
  refine dA c1 ?_
  cbv
  (refine rC ?_;cbv)
  exact zX hr.symm
 obtain⟨i,p,z,hi',g1,c1,k1,k2⟩:=c12 e1 om
 clear c34 c12
 cbv
 refine cA cp ?_
 cbv
 refine zF (fun e5=>?_) (fun e5=>?_)
 ·have hr:=k1 om
  cbv
  refine xC g1 hi' yU xE ?_
  cbv
  refine cA c1 ?_
  cbv
  (refine rC ?_;cbv)
  exact zX hr.symm
 ·have hr:=k2 om
  cbv
  refine xC g1 hi' yU xE ?_
  cbv
  refine cA c1 ?_
  cbv
  (refine rC ?_;cbv)
  exact zX hr.symm
def memB (x:FQry) (path:List Dec) (l:List Rat):Bool:=l6 x.r l && path.all fun d=>uA x d l
theorem zHI (x:FQry)(path:List Dec)(L:List Lem)(l:List Rat)(hx:x.small)(hok:x.ok)(hd:Dsz (2^20) path)(hl:InpOk x l):zB 29 [sv ⟨x.q,path,L⟩,rlv (l.map zC)] (.bool (fun _=>memB x path l)):=by
 refine sF Tryz.f29 ?_
 have hv:=hx.valid hok
 have hz:=hx.sz
 have cv:=zF4 x.q (hz.mono (by decide))
 rw[hv] at cv
 have hrv:x.r.g.valid (x.g.n:Int)=true:=by
  have:=hv
  unfold Qry.valid at this
  simp only[Bool.and_eq_true] at this
  exact this.1.2
 have cc:=zN5 x.r l hx.r hrv (hz.r.mono (by decide)) hok.rows hl.len hx.g.n2 (m:=20) (by decide) hl.fit
 have ch:=fun (d:Dec) (h:d∈path)=>zD6 x d l hx hok (hd.sz d h) hl
 have hpl:=hd.len
 have hXl:(l.map zC).length=x.g.n:=by rw[List.length_map,hl.len]
 generalize hres:memB x path l=res
 have r0:res=(l6 x.r l && path.all fun d=>uA x d l):=hres.symm
 have r1:l6 x.r l=false→res=false:=fun h=>by rw[r0,h];rfl
 have r2:∀ d,d∈path→uA x d l=false→res=false:=fun d h h'=>by
  rw[r0]
  have:(path.all fun d=>uA x d l)=false:=by
   cases ha:path.all fun d=>uA x d l with
   | false=>rfl
   | true=>have:=List.all_eq_true.1 ha d h;rw[h'] at this;cases this
  rw[this,Bool.and_false]
 have r3:l6 x.r l=true→(∀ (i:Nat) d,path[i]?=some d→uA x d l=true)→res=true:=fun h h'=>by
  rw[r0,h,Bool.true_and,List.all_eq_true]
  intro d hd'
  obtain⟨i,hi⟩:=cC hd'
  exact h' i d hi
 have hgn:x.q.g.n=(x.g.n:Int):=rfl
 have hrg:x.r.g=x.q.r:=rfl
 rw[hrg] at cc
 obtain⟨H,hH⟩:∃ H:Dec→Bool,∀ d,uA x d l=H d:=⟨_,fun _=>rfl⟩
 simp only[hH] at ch r2 r3
 clear r0 hres hl hx hok hz hv hrv hd hrg hH
 generalize l6 x.r l=cb at *
 generalize l.map zC=X at *
 generalize x.g.n=n at *
 generalize x.q=Q at *
 obtain⟨⟨gn,us,os⟩,⟨lo,hi,rows⟩,⟨ts,c⟩⟩:=Q
 dsimp only at hgn
 subst hgn
 cbv
 refine cA cv ?_
 cbv
 refine qQ rfl ?_
 cbv
 refine xM (by rw[zA,hXl]) ?_
 cbv
 refine cA cc ?_
 cbv
 refine zV (fun e1=>?_) (fun e1=>?_)
 rotate_left
 ·have hr:=r1 e1
  cbv
  (refine rC ?_;cbv)
  exact zM hr
 have r3':=r3 e1
 clear r3 r1
 cbv
 refine z4 (σ:=Nat) (fun i=>⟨[(1,rlv X),(2,.ptr 2 0),(5,.int .i64 (fun _=>(i:Int)))],[(2,.box [.int .i64 (fun _=>(n:Int)),alv us,alv os,rlv lo,rlv hi,alv rows,tsv ts,.bool (fun _=>c.neg),nat c.num,nat c.den,dlv path,llv L])]⟩)
  (fun i=>i≤path.length∧∀ (j:Nat) d,path[j]?=some d→j<i→H d=true) (fun i=>path.length - i) 0 ⟨Nat.zero_le _,fun j d _ h=>absurd h (by omega)⟩ (wkZ) ?_
 intro i hi'
 obtain⟨hi1,hi2⟩:=hi'
 cbv
 refine zF (fun h=>?_) (fun h=>?_)
 ·have hlt:i<path.length:=by rw[zA] at h;(try dsimp only [zG] at *);omega
  obtain⟨d,hdi⟩:=zS hlt
  have c1:=ch d (List.mem_of_getElem? hdi)
  have k1:=r2 d (List.mem_of_getElem? hdi)
  have hsucc:H d=true→∀ (j:Nat) d',path[j]?=some d'→j<i+1→H d'=true:=fun hH' j d' hj hlt'=>by
   by_cases e:j=i
   ·rw[e,hdi] at hj;cases hj;exact hH'
   ·exact hi2 j d' hj (by omega)
  clear ch r2 r3' hi2
  generalize H d=hb at *
  cbv
  refine zO 10 (by cbv) ?_
  cbv
  refine yF hdi cH s3 ?_
  cbv
  refine dA c1 ?_
  cbv
  refine zV (fun e2=>?_) (fun e2=>?_)
  ·have hs:=hsucc e2
   cbv
   exact⟨zH om om,i+1,⟨(by show i+1≤path.length;omega),hs⟩,(by show path.length - (i+1)<path.length - i;omega),wkZ⟩
  ·have hr:=k1 e2
   cbv
   (refine rC ?_;cbv)
   exact zM hr
 have hr:=r3' (fun j d hj=>hi2 j d hj (by have:=(List.getElem?_eq_some_iff.1 hj).1;rw[zA] at h;(try dsimp only [zG] at *);omega))
 cbv
 (refine rC ?_;cbv)
 exact z7 hr
theorem zCP {a b:Rat}(h:0≤y7 a b):b≤a:=by unfold y7 at h;split at h <;> (try split at h) <;> grind
theorem o8 {a b:Rat}(h:y7 a b≤0):a≤b:=by unfold y7 at h;split at h <;> (try split at h) <;> grind
theorem zB0 {a:Rat}(h:0≤yB a):0≤a:=by unfold yB at h;split at h <;> (try split at h) <;> grind
theorem zJZ {a:Rat}(h:yB a≤0):a≤0:=by unfold yB at h;split at h <;> (try split at h) <;> grind
theorem zRK {x:FQry}{path:List Dec}{L:List Lem}{l:List Rat}(hx:x.small)(hok:x.ok)(hl:InpOk x l)(h:memB x path l=true):Pt ⟨x.q,path,L⟩ (xr (xJ x.g.us l)):=by
 unfold memB l6 at h
 simp only[Bool.and_eq_true] at h
 obtain⟨⟨h1,h2⟩,h3⟩:=h
 have hX:∀ i:Nat,i<x.g.n→xr (xJ x.g.us l) i=xr l i:=fun i hi=>by
  unfold xr
  rw[Int.toNat_natCast,tF _ _ _ (by rw[hl.len];exact hi)]
 have hget:∀ i:Nat,i<x.g.n→∃ q,l[i]?=some q∧xr (xJ x.g.us l) i=q:=fun i hi=>by
  obtain⟨q,hq⟩:=zS (l:=l) (i:=i) (by rw[hl.len];exact hi)
  exact⟨q,hq,by rw[hX i hi];exact aV hq⟩
 have hbl:=hx.r.bs
 have hwu:=hok.us
 have hun:∀ (i:Nat) f,x.g.us[i]?=some f→xr (xJ x.g.us l) ((x.g.n:Int)+i)=uZ (f.at (xr (xJ x.g.us l))) 0:=fun i f hf=>by
  have:=zAK (us:=x.g.us) (l:=l) (fun i f h=>by rw[hl.len];exact hwu i f h) hf
  rw[hl.len] at this
  have e:(x.g.n:Int)+i=((x.g.n+i:Nat):Int):=by omega
  rw[e]
  exact aV this
 have hus:∀ (i:Nat) p,x.q.g.us[i]?=some p→∃ f,x.g.us[i]?=some f∧p=fA f:=fun i p hp=>by
  have hp':(x.g.us.map fA)[i]?=some p:=hp
  rw[List.getElem?_map] at hp'
  cases hf:x.g.us[i]? with
  | none=>rw[hf] at hp';cases hp'
  | some f=>rw[hf] at hp';cases hp';exact⟨f,rfl,rfl⟩
 have hhold:∀ d,d∈path→uA x d l=true:=fun d hd=>List.all_eq_true.1 h3 d hd
 have hpre:∀ (i:Nat) p,x.q.g.us[i]?=some p→l4 x l i=p.f.at (xr (xJ x.g.us l)):=fun i p hp=>by
  obtain⟨f,hf,rfl⟩:=hus i p hp
  unfold l4
  rw[Int.toNat_natCast,hf,vE]
  rfl
 refine⟨fun i y hy=>?_,fun i y hy=>?_,fun i f hf=>?_,fun i p hp=>?_,fun d hd hf hk=>?_,fun d hd hf hk=>?_,fun d hd hf hk i p hi hp=>?_,fun d hd hf hk i p hi hp=>?_⟩
 ·have hy':(x.r.bs.map fun b=>zC b.1)[i]?=some y:=hy
  rw[List.getElem?_map] at hy'
  cases hb:x.r.bs[i]? with
  | none=>rw[hb] at hy';cases hy'
  | some b =>
   rw[hb] at hy'
   cases hy'
   have hlt:=(List.getElem?_eq_some_iff.1 hb).1
   obtain⟨q,hq,hqx⟩:=hget i (by omega)
   rw[hqx,zY]
   exact zCP (mH h1 i b q hb hq).1
 ·have hy':(x.r.bs.map fun b=>zC b.2)[i]?=some y:=hy
  rw[List.getElem?_map] at hy'
  cases hb:x.r.bs[i]? with
  | none=>rw[hb] at hy';cases hy'
  | some b =>
   rw[hb] at hy'
   cases hy'
   have hlt:=(List.getElem?_eq_some_iff.1 hb).1
   obtain⟨q,hq,hqx⟩:=hget i (by omega)
   rw[hqx,zY]
   exact o8 (mH h1 i b q hb hq).2
 ·have hf':(x.r.rows.map fA)[i]?=some f:=hf
  rw[List.getElem?_map] at hf'
  cases hb:x.r.rows[i]? with
  | none=>rw[hb] at hf';cases hf'
  | some b =>
   rw[hb] at hf'
   cases hf'
   rw[vE]
   have hmem:=List.mem_of_getElem? hb
   have hw:=hok.rows b hmem
   rw[←hl.len] at hw
   rw[zLC (us:=x.g.us) hw]
   unfold aQ at h2
   exact zB0 (of_decide_eq_true (List.all_eq_true.1 h2 b hmem))
 ·obtain⟨f,hf,rfl⟩:=hus i p hp
  have e:=hun i f hf
  have e':x.q.g.n+(i:Int)=(x.g.n:Int)+i:=rfl
  show 0≤xr _ (x.q.g.n+(i:Int))∧_≤xr _ (x.q.g.n+(i:Int))∧(xr _ (x.q.g.n+(i:Int))=0∨xr _ (x.q.g.n+(i:Int))=_)
  rw[e',e,vE]
  unfold uZ
  split <;> grind
 ·have hh:=hhold d hd
  unfold uA at hh
  rw[hf,Bool.true_and,if_pos hk] at hh
  obtain⟨g1,g2⟩:=zDJ hf (.inl hk)
  have e:d.i=((d.i.toNat:Nat):Int):=by omega
  have:=zCP (of_decide_eq_true hh)
  rw[e] at this ⊢
  rw[hX _ (by omega)]
  exact this
 ·have hh:=hhold d hd
  unfold uA at hh
  rw[hf,Bool.true_and,if_neg (by omega),if_pos hk] at hh
  obtain⟨g1,g2⟩:=zDJ hf (.inr hk)
  have e:d.i=((d.i.toNat:Nat):Int):=by omega
  have:=o8 (of_decide_eq_true hh)
  rw[e] at this ⊢
  rw[hX _ (by omega)]
  exact this
 ·have hh:=hhold d hd
  unfold uA at hh
  rw[hf,Bool.true_and,if_neg (by omega),if_neg (by omega),if_pos hk,hi,hpre i p hp] at hh
  exact zB0 (of_decide_eq_true hh)
 ·have hh:=hhold d hd
  unfold uA at hh
  rw[hf,Bool.true_and,if_neg (by omega),if_neg (by omega),if_neg (by omega),hi,hpre i p hp] at hh
  exact zJZ (of_decide_eq_true hh)
theorem zE4 {N:Int}:∀ {ts:List (Int × Rat)} {lo:Int},Cn ts→(∀ t,t∈ts→lo≤t.1∧t.1<N)→(ts.length:Int)≤max 0 (N - lo)
 | [],lo,_,_=>by simp;omega
 | t::r,lo,hc,h=>by
  have h1:=h t List.mem_cons_self
  have:=zE4 (ts:=r) (lo:=t.1+1) hc.tail (fun u hu=>⟨by have:=hc.lt u hu;omega,(h u (List.mem_cons_of_mem _ hu)).2⟩)
  rw[List.length_cons]
  omega
theorem zFL {a:Rat}(h:0≤a):0≤yB a:=by unfold yB;split <;> (try split) <;> grind
theorem F.wf.short {f:F}{n:Nat}(h:f.wf (n:Int)):f.ts.length≤n:=by
 have:=zE4 (lo:=0) h.cn h.v
 omega
theorem zGW (raw at':List UInt8):InpOk (fdY raw 0).1 (jE at' 0 (fdY raw 0).1.r.bs):=by
 have hx:=xA raw 0
 exact⟨by rw[sP];exact hx.r.bs,zBA hx.r.bf⟩
theorem b9 (raw:List UInt8):(fdY raw 0).1.g.g.valid=true:=by
 have:=(xA raw 0).valid (cX raw 0)
 unfold Qry.valid at this
 simp only[Bool.and_eq_true] at this
 exact this.1.1
theorem zOD {raw:List UInt8}{l:List Rat}(hl:InpOk (fdY raw 0).1 l){f:F}(hw:f.wf (((fdY raw 0).1.g.n+(fdY raw 0).1.g.us.length:Nat):Int)){k n:Nat}(hf:f.fl k n)(hk:k≤2^26)(h0:0≤f.at (xr (xJ (fdY raw 0).1.g.us l))) :
  ∃ (y:R) (z:Int),zB 32 [av (fA f),rlv ((xJ (fdY raw 0).1.g.us l).map zC)] (.tup [rv y,.int .i64 (fun _=>0)])∧zB 33 [rv y] (.int .i64 (fun _=>z))∧0≤z:=by
 have hx:=xA raw 0
 have hok:=cX raw 0
 obtain⟨V,Q⟩:=vseq hx.g hok.us hl.len (m:=20) (by decide) (by decide) hl.fit
 have hvl:(xJ (fdY raw 0).1.g.us l).length=(fdY raw 0).1.g.n+(fdY raw 0).1.g.us.length:=by rw[gK,hl.len]
 have n2:=hx.g.n2
 have u4:=hx.g.us
 have hfit:∀ q,q∈xJ (fdY raw 0).1.g.us l→Fits (2^24) q:=fun q hq=>Q.fit (fdY raw 0).1.g.us.length q (by rw[Q.v9];exact hq)
 have hsh:=hw.short
 have hf7:f.fl (2^26) 7:=⟨fun t ht=>(hf.t t ht).mono hk,hf.c.mono hk,by omega⟩
 rw[←hvl] at hw
 have c:=tO f _ hf7 hw hfit (by decide) (by decide) (by decide) (by decide) (by omega)
 have ht:=uQ hf7 (gI hw hfit)
 have cs:=s35 (zC (f.at (xr (xJ (fdY raw 0).1.g.us l)))) (Nat.lt_of_le_of_lt (zU ht).n (by decide))
 rw[zY] at cs
 exact⟨_,_,c,cs,zFL h0⟩
theorem cE {a b:ByteArray}(h:a=b):LeS (.str (fun _=>a)) (.str (fun _=>b)):=⟨by simp [Le,h]⟩
theorem jF {a b:ByteArray}(h:a.size+b.size≤9223372036854775807):StrRoom (fun _=>a) (fun _=>b):=⟨h⟩
theorem zJU {src dst e:TypeId}{els:List (List D)}{K:PV→Prop}(ns:List Int)(h1:Pg.underlying src=some (.slice e))(h2:Pg.underlying e=some (.int .u8))(h3:Pg.underlying dst=some .string)(h4:els=ns.map fun n=>[D.int .u8 n])(hK:K (.str (fun _=>aK ns))):ToStr src dst (fun _=>els) K :=
 ⟨⟨e,h1,h2⟩,h3,ns,h4,hK⟩
def dgS (d:Nat):ByteArray:=⟨#[UInt8.ofNat (48+d)]⟩
theorem zG2:∀ d:Nat,d<10→aK [48+(d:Int)]++⟨#[]⟩=dgS d∧(aK [48+(d:Int)]).size=1∧((dgS d).toList == (⟨#[]⟩:ByteArray).toList)=false:=by decide +kernel
theorem zPJ (l:List UInt32)(d:Nat)(hd:d<10)(hl:l.length≤1)(hv:val l=d)(h1:zJ d=l)(h0:zJ 0=[]):zB 146 [nat l] (.str (fun _=>dgS d)):=by
 refine sF Tryz.f146 ?_
 have c1:=rY l (by omega)
 rw[hv,h1] at c1
 have c2:=s159 l [10] (by omega) (by decide) (by decide)
 have hv10:val [10]=10:=by decide
 rw[hv,hv10,Nat.div_eq_of_lt hd,Nat.mod_eq_of_lt hd,h0,h1] at c2
 have c3:=s206 l (by omega)
 rw[hv] at c3
 have hBB:d<B * B:=Nat.lt_trans hd (by decide)
 rw[if_pos hBB,decide_eq_true hBB] at c3
 clear hBB h0 h1 hv10
 cbv
 refine cA c1 ?_
 cbv
 refine z4 (σ:=Nat) (fun i=>⟨[(0,nat (if i=0 then l else [])),(3,.str (fun _=>if i=0 then ⟨#[]⟩ else dgS d))],[]⟩)
  (fun i=>i≤1) (fun i=>1 - i) 0 (Nat.zero_le _) (.le ?_ ?_ rfl) ?_
 ·cbv
  exact⟨zQ rfl,cE rfl,trivial⟩
 ·trivial
 intro i hi
 rcases Nat.lt_or_ge i 1 with hi1 | hi1
 ·obtain rfl:i=0:=by omega
  clear hi hi1
  cbv
  have fin:(zL [[PV.int IntKind.u8 fun _=>nx IntKind.u8 (nx IntKind.u64 (48+(d:Int)))]]=([48+(d:Int)].map fun n=>[D.int .u8 n])):=by
   have e:nx IntKind.u8 (nx IntKind.u64 (48+(d:Int)))=48+(d:Int):=by
    rw[wX]
    unfold nx
    simp [IntKind.wrap,IntKind.signed,IntKind.bits]
    omega
   rw[e]
   rfl
  refine zR (fun h=>?_) (fun h=>?_)
  rotate_left
  cbv
  refine zV (fun h'=>?_) (fun h'=>absurd h' (by rw[if_pos rfl];simp))
  all_goals
   cbv
   refine cA c2 ?_
   cbv
   refine cA c3 ?_
   cbv
   refine zJU (e:=5) [48+(d:Int)] (by rw[u7];rfl) (by rw[u7];rfl) (by rw[u7];rfl) fin ?_
   cbv
   refine⟨jF (by rw[if_pos rfl,(zG2 d hd).2.1];decide),?_⟩
   cbv
   refine⟨1,Nat.le_refl _,Nat.lt_add_one 0,.le ?_ ?_ rfl⟩
   ·cbv
    exact⟨lR,cE (zG2 d hd).1,trivial⟩
   ·trivial
 ·obtain rfl:i=1:=by omega
  cbv
  refine z6 (by simp [lm]) ?_
  cbv
  refine zV (fun h'=>?_) (fun h'=>?_)
  ·rw[if_neg (by decide),(zG2 d hd).2.2] at h'
   cases h'
  ·cbv
   (refine rC ?_;cbv)
   exact cE rfl
theorem zPK (neg:Bool)(l:List UInt32)(d:Nat)(c:zB 146 [nat l] (.str (fun _=>dgS d))):zB 144 [rv ⟨neg,l,[]⟩] (.str (fun _=>dgS d)):=by
 refine sF Tryz.f144 ?_
 cbv
 refine cA c ?_
 cbv
 refine z9 (by simp [lm]) ?_
 cbv
 (refine rC ?_;cbv)
 exact lR
def zF6 (s:ByteArray) (neg:Bool) (p:ByteArray):ByteArray :=
 if ((s.toList == (⟨#[]⟩:ByteArray).toList) && neg)=true then ⟨#[45]⟩++p else if (s.toList == (⟨#[]⟩:ByteArray).toList)=true then p else if neg=true then s++⟨#[32,45,32]⟩++p else s++⟨#[32,43,32]⟩++p
theorem zPH (s:ByteArray)(neg:Bool)(p:ByteArray)(h1:s.size≤2^20)(h2:p.size≤2^20):zB 145 [.str (fun _=>s),.bool (fun _=>neg),.str (fun _=>p)] (.str (fun _=>zF6 s neg p)):=by
 refine sF Tryz.f145 ?_
 have e1:ByteArray.size ⟨#[45]⟩=1:=rfl
 have e2:ByteArray.size ⟨#[32,45,32]⟩=3:=rfl
 have e3:ByteArray.size ⟨#[32,43,32]⟩=3:=rfl
 have hsz:∀ a b:ByteArray,(a++b).size=a.size+b.size:=fun a b=>ByteArray.size_append
 generalize hJ:zF6 s neg p=J
 unfold zF6 at hJ
 cbv
 refine z5 (fun h=>?_) (fun h=>?_)
 ·rw[h,Bool.true_and] at hJ
  cbv
  refine zV (fun g=>?_) (fun g=>?_)
  ·rw[if_pos g] at hJ
   cbv
   refine⟨jF (by rw[e1];omega),?_⟩
   cbv
   (refine rC ?_;cbv)
   exact cE hJ
  ·rw[if_neg (by rw[g];decide),if_pos rfl] at hJ
   cbv
   refine zV (fun _=>?_) (fun g=>by rw[h] at g;cases g)
   cbv
   (refine rC ?_;cbv)
   exact cE hJ
 ·rw[h,Bool.false_and,if_neg (by decide),if_neg (by decide)] at hJ
  cbv
  refine zV (fun g=>by rw[h] at g;cases g) (fun _=>?_)
  cbv
  refine zV (fun g=>?_) (fun g=>?_)
  ·rw[if_pos g] at hJ
   cbv
   refine⟨jF (by rw[e2];omega),jF (by rw[hsz,e2];omega),?_⟩
   cbv
   (refine rC ?_;cbv)
   exact cE hJ
  ·rw[if_neg (by rw[g];decide)] at hJ
   cbv
   refine⟨jF (by rw[e3];omega),jF (by rw[hsz,e3];omega),?_⟩
   cbv
   (refine rC ?_;cbv)
   exact cE hJ
def txF:A:=⟨[(0,⟨false,[2],[]⟩),(1,⟨true,[3],[]⟩)],⟨false,[],[]⟩⟩
def txS:Nat→ByteArray
 | 0=>⟨#[]⟩
 | 1=>⟨#[50,42,120,48]⟩
 | _=>⟨#[50,42,120,48,32,45,32,51,42,120,49]⟩
theorem zSO:zB 80 [av txF] (.str (fun _=>txS 2)):=by
 refine sF Tryz.f80 ?_
 have k0:zJ 0=[]:=by decide +kernel
 have dg:∀ d:Nat,d<10→0<d→zJ d=[UInt32.ofNat d]→val [UInt32.ofNat d]=d→zB 146 [nat [UInt32.ofNat d]] (.str (fun _=>dgS d)):=fun d h1 h2 h3 h4=>zPJ _ d h1 (Nat.le_refl _) h4 h3 k0
 have d0:=zPJ [] 0 (by decide) (by decide) (by decide) k0 k0
 have d1:=dg 1 (by decide) (by decide) (by decide +kernel) (by decide)
 have d2:=dg 2 (by decide) (by decide) (by decide +kernel) (by decide)
 have d3:=dg 3 (by decide) (by decide) (by decide +kernel) (by decide)
 have of0:=s149 0 (by decide)
 rw[k0] at of0
 have of1:=s149 1 (by decide)
 rw[show zJ 1=[UInt32.ofNat 1] by decide +kernel] at of1
 have st:∀ i:Nat,i<2→∃ (t:Int × R) (d:Nat) (l:List UInt32) (e:Nat),txF.ts[i]?=some t∧t.1=(i:Int)∧zB 144 [rv t.2] (.str (fun _=>dgS d))∧((dgS d++⟨#[42]⟩).toList == (⟨#[49,42]⟩:ByteArray).toList)=false∧(dgS d).size=1∧(dgS e).size=1 ∧
   zB 147 [.int .u64 (fun _=>(i:Int))] (nat l)∧zB 146 [nat l] (.str (fun _=>dgS e))∧zB 145 [.str (fun _=>txS i),.bool (fun _=>t.2.neg),.str (fun _=>dgS d++⟨#[42]⟩++⟨#[120]⟩++dgS e)] (.str (fun _=>txS (i+1))):=fun i hi=>by
  rcases Nat.lt_or_ge i 1 with h | h
  ·obtain rfl:i=0:=by omega
   refine⟨_,2,_,0,rfl,rfl,zPK false _ 2 d2,by decide +kernel,by decide,by decide,of0,d0,?_⟩
   have:=zPH (txS 0) false (dgS 2++⟨#[42]⟩++⟨#[120]⟩++dgS 0) (by decide) (by decide +kernel)
   rw[show zF6 (txS 0) false (dgS 2++⟨#[42]⟩++⟨#[120]⟩++dgS 0)=txS (0+1) by decide +kernel] at this
   exact this
  ·obtain rfl:i=1:=by omega
   refine⟨_,3,_,1,rfl,rfl,zPK true _ 3 d3,by decide +kernel,by decide,by decide,of1,d1,?_⟩
   have:=zPH (txS 1) true (dgS 3++⟨#[42]⟩++⟨#[120]⟩++dgS 1) (by decide) (by decide +kernel)
   rw[show zF6 (txS 1) true (dgS 3++⟨#[42]⟩++⟨#[120]⟩++dgS 1)=txS (1+1) by decide +kernel] at this
   exact this
 have csg:=s35 txF.c (by decide)
 rw[show yB txF.c.q=0 by decide +kernel] at csg
 have hz:((txS 2).toList == (⟨#[]⟩:ByteArray).toList)=false:=by decide +kernel
 have h2:txF.ts.length=2:=rfl
 clear d0 d1 d2 d3 of0 of1 k0 dg
 have hsz:∀ a b:ByteArray,(a++b).size=a.size+b.size:=fun a b=>ByteArray.size_append
 have e1:ByteArray.size ⟨#[42]⟩=1:=rfl
 have e2:ByteArray.size ⟨#[120]⟩=1:=rfl
 have hS0:txS 0=⟨#[]⟩:=rfl
 generalize txS=S at *
 generalize txF=F at *
 obtain⟨ts,c⟩:=F
 dsimp only at st h2
 cbv
 refine z4 (σ:=Nat) (fun i=>⟨[(1,.ptr 1 0),(3,.str (fun _=>S i)),(4,.int .i64 (fun _=>(i:Int)))],[(1,.box [tsv ts,.bool (fun _=>c.neg),nat c.num,nat c.den])]⟩)
  (fun i=>i≤2) (fun i=>2 - i) 0 (Nat.zero_le _) (.le ?_ ?_ rfl) ?_
 ·cbv
  exact⟨lR,cE hS0.symm,zE rfl,trivial⟩
 ·cbv
  exact okA
 intro i hi
 cbv
 refine zF (fun h=>?_) (fun h=>?_)
 ·have hlt:i<2:=by rw[zA,h2] at h;(try dsimp only [zG] at *);omega
  obtain⟨⟨tv,⟨tn,tm,td⟩⟩,d,l,e,g1,g2,g3,g4,g5,g6,g7,g8,g9⟩:=st i hlt
  dsimp only at g2 g9
  subst g2
  cbv
  refine yF g1 y4 y6 ?_
  cbv
  refine cA g3 ?_
  cbv
  refine⟨jF (by rw[g5,e1];decide),?_⟩
  cbv
  refine zV (fun g=>by rw[g4] at g;cases g) (fun _=>?_)
  cbv
  refine zO 14 (by cbv) ?_
  cbv
  refine⟨jF (by rw[hsz,g5,e1,e2];decide),?_⟩
  cbv
  refine xG (by exact⟨zE (by show nx .u64 ((i:Nat):Int)=(i:Int);rw[wX];omega),trivial⟩) g7 rfl ?_
  cbv
  refine dA g8 ?_
  cbv
  refine⟨jF (by rw[hsz,hsz,g5,e1,e2,g6];decide),?_⟩
  cbv
  refine dA g9 ?_
  cbv
  exact⟨zH om om,i+1,(by show i+1≤2;omega),(by show 2 - (i+1)<2 - i;omega),wkZ⟩
 ·have hi2:i=2:=by rw[zA,h2] at h;(try dsimp only [zG] at *);omega
  subst hi2
  cbv
  refine z5 (fun g=>by rw[hz] at g;cases g) (fun _=>?_)
  cbv
  refine cA csg ?_
  cbv
  refine xT rfl ?_
  cbv
  (refine rC ?_;cbv)
  exact lR
theorem zB6 (s:Scp)(unit:Int)(hs:Lsz (2^20) s.lems):zB 79 [sv s,.int .i64 (fun _=>unit)] (.tup [.int .i64 (fun _=>((s.best unit).1:Int)),.int .i64 (fun _=>((s.best unit).2:Int))]):=by
 refine sF Tryz.f79 ?_
 have hll:=hs.len
 obtain⟨⟨⟨gn,us,os⟩,⟨lo,hi,rows⟩,⟨ts,c1,c2,c3⟩⟩,path,L⟩:=s
 dsimp only at hs hll
 have cc:∀ m m',m∈L→m'∈L→zB 143 [rv m.v,rv m'.v] (.int .i64 (fun _=>y7 m.v.q m'.v.q)):=fun m m' h h'=>s165 m.v m'.v ((hs.sz m h).mono (by decide)) ((hs.sz m' h').mono (by decide))
 have hst:∀ n m r b,qR L unit n (m::r) b=qR L unit (n+1) r (if m.u=unit then (if m.up=true then (if b.2=0∨y7 m.v.q (xV L b.2)<0 then (b.1,n+1) else b) else (if b.1=0∨0<y7 m.v.q (xV L b.1) then (n+1,b.2) else b)) else b):=fun _ _ _ _=>rfl
 have hva:∀ k m,L[k - 1]?=some m→xV L k=m.v.q:=fun k m h=>by unfold xV;rw[h];rfl
 have hni:∀ n b,qR L unit n [] b=b:=fun _ _=>rfl
 have hgoal:((⟨⟨⟨gn,us,os⟩,⟨lo,hi,rows⟩,⟨ts,c1,c2,c3⟩⟩,path,L⟩:Scp).best unit)=qR L unit 0 L (0,0):=rfl
 rw[hgoal]
 obtain⟨B,hB⟩:∃ B,qR L unit 0 L (0,0)=B:=⟨_,rfl⟩
 rw[hB]
 obtain⟨B1,B2⟩:=B
 dsimp only
 generalize qR L unit=BG at *
 clear hgoal
 cbv
 refine z4 (σ:=Nat × Nat × Nat) (fun st=>⟨[(1,.int .i64 (fun _=>unit)),(2,.ptr 2 0),(6,.int .i64 (fun _=>(st.2.1:Int))),(7,.int .i64 (fun _=>(st.2.2:Int))),(11,llv L),(12,.int .i64 (fun _=>((enc lc L).length:Int))),(13,.int .i64 (fun _=>(st.1:Int)))],[(2,.box [.int .i64 (fun _=>gn),alv us,alv os,rlv lo,rlv hi,alv rows,tsv ts,.bool (fun _=>c1),nat c2,nat c3,dlv path,llv L])]⟩)
  (fun st=>st.1≤L.length∧BG st.1 (L.drop st.1) st.2=(B1,B2)∧st.2.1≤L.length∧st.2.2≤L.length) (fun st=>L.length - st.1)
  (0,0,0) ⟨by show 0≤_;omega,hB,Nat.zero_le _,Nat.zero_le _⟩ (wkZ) ?_
 intro st hst'
 obtain⟨i,b1,b2⟩:=st
 obtain⟨h1,h2,h3,h4⟩:=hst'
 dsimp only at h1 h2 h3 h4
 clear hB
 cbv
 refine zF (fun h5=>?_) (fun h5=>?_)
 ·rw[zA] at h5
  have hlt:i<L.length:=by (try dsimp only [zG] at *);omega
  obtain⟨m,hm⟩:=zS hlt
  have hmem:=List.mem_of_getElem? hm
  rw[yE hm,hst] at h2
  have idx:∀ {K:List PV→Prop},K (lc m)→IdxOk 6 (fun _=>enc lc L) (fun _=>(i:Int)) K:=fun hK=>xC hm (by omega) vD uO hK
  have hin:∀ k:Nat,k≤L.length→¬ k=0→∃ m',m'∈L∧xV L k=m'.v.q∧∀ {K:List PV→Prop},K (lc m')→IdxOk 6 (fun _=>enc lc L) (fun _=>(k:Int) - 1) K:=fun k hk h0=>by
   obtain⟨m',hm'⟩:=zS (l:=L) (i:=k - 1) (by omega)
   exact⟨m',List.mem_of_getElem? hm',hva k m' hm',fun hK=>xC hm' (by omega) vD uO hK⟩
  clear hst hva
  cbv
  refine idx ?_
  cbv
  refine zF (fun e1=>?_) (fun e1=>?_)
  ·rw[if_pos e1] at h2
   cbv
   refine zV (fun e2=>?_) (fun e2=>?_)
   ·rw[if_pos e2] at h2
    cbv
    refine zO 15 (by cbv) ?_
    cbv
    refine zR (fun e3=>?_) (fun e3=>?_)
    ·have e3':b2=0:=by (try dsimp only [zG] at *);omega
     rw[if_pos (.inl e3')] at h2
     cbv
     exact⟨zH om om,zH om om,(i+1,b1,(i+1)),⟨om,h2,(by show b1≤_;omega),(by show (i+1)≤_;omega)⟩,om,wkZ⟩
    have e3':¬ b2=0:=by (try dsimp only [zG] at *);omega
    obtain⟨m',hm',hv',idx'⟩:=hin b2 h4 e3'
    have cx:=cc m m' hmem hm'
    rw[hv'] at h2
    generalize y7 m.v.q m'.v.q=x at *
    cbv
    refine⟨zH om om,idx' ?_⟩
    cbv
    refine dA cx ?_
    cbv
    refine zF (fun e5=>?_) (fun e5=>?_)
    ·rw[if_pos (.inr e5)] at h2
     cbv
     exact⟨zH om om,zH om om,(i+1,b1,(i+1)),⟨om,h2,(by show b1≤_;omega),(by show (i+1)≤_;omega)⟩,om,wkZ⟩
    ·rw[if_neg (fun h=>h.elim e3' e5)] at h2
     cbv
     exact⟨zH om om,(i+1,b1,b2),⟨om,h2,(by show b1≤_;omega),(by show b2≤_;omega)⟩,om,wkZ⟩
   ·rw[if_neg (by rw[e2];decide)] at h2
    cbv
    refine zO 15 (by cbv) ?_
    cbv
    refine zR (fun e3=>?_) (fun e3=>?_)
    ·have e3':b1=0:=by (try dsimp only [zG] at *);omega
     rw[if_pos (.inl e3')] at h2
     cbv
     exact⟨zH om om,zH om om,(i+1,(i+1),b2),⟨om,h2,(by show (i+1)≤_;omega),(by show b2≤_;omega)⟩,om,wkZ⟩
    have e3':¬ b1=0:=by (try dsimp only [zG] at *);omega
    obtain⟨m',hm',hv',idx'⟩:=hin b1 h3 e3'
    have cx:=cc m m' hmem hm'
    rw[hv'] at h2
    generalize y7 m.v.q m'.v.q=x at *
    cbv
    refine⟨zH om om,idx' ?_⟩
    cbv
    refine dA cx ?_
    cbv
    refine zF (fun e5=>?_) (fun e5=>?_)
    ·rw[if_pos (.inr e5)] at h2
     cbv
     exact⟨zH om om,zH om om,(i+1,(i+1),b2),⟨om,h2,(by show (i+1)≤_;omega),(by show b2≤_;omega)⟩,om,wkZ⟩
    ·rw[if_neg (fun h=>h.elim e3' e5)] at h2
     cbv
     exact⟨zH om om,(i+1,b1,b2),⟨om,h2,(by show b1≤_;omega),(by show b2≤_;omega)⟩,om,wkZ⟩
  ·rw[if_neg e1] at h2
   cbv
   exact⟨zH om om,(i+1,b1,b2),⟨om,h2,(by show b1≤_;omega),(by show b2≤_;omega)⟩,om,wkZ⟩
 ·have hi:i=L.length:=by rw[zA] at h5;(try dsimp only [zG] at *);omega
  rw[hi,List.drop_length,hni] at h2
  obtain⟨q1,q2⟩:=Prod.mk.inj h2
  subst q1 q2
  cbv
  (refine rC ?_;cbv)
  exact okA
theorem zPF (s:Scp)(j:Int)(hs:s.sz (2^20)):zB 114 [sv s,.int .i64 (fun _=>j),.int .i64 (fun _=>((s.best j).1:Int)),.int .i64 (fun _=>((s.best j).2:Int))] (.tup [.bool (fun _=>s.onU j),.bool (fun _=>s.offU j)]):=by
 refine sF Tryz.f114 ?_
 have cd1:=nA s 1 j (hs.path.mono (by decide))
 have cd2:=nA s 2 j (hs.path.mono (by decide))
 have csg:∀ m,m∈s.lems→zB 77 [rv m.v] (.int .i64 (fun _=>yB m.v.q)):=fun m hm=>s86 m.v (by have:=(hs.lems.sz m hm).n;omega)
 have hlen:=hs.lems.len
 have hbb:∀ k:Nat,(k=(s.best j).1∨k=(s.best j).2)→k≠0→∃ m,s.lems[k - 1]?=some m∧k - 1<s.lems.length:=fun k hk h0=>by
  obtain⟨m,hm,_⟩:=fS hk h0
  exact⟨m,hm,(List.getElem?_eq_some_iff.1 hm).1⟩
 have hb1:=hbb _ (.inl rfl)
 have hb2:=hbb _ (.inr rfl)
 clear hbb
 have hv:∀ (k:Nat) m,s.lems[k - 1]?=some m→xV s.lems k=m.v.q:=fun k m h=>by unfold xV;rw[h];rfl
 have hon:s.onU j=(s.dcd 1 j || (decide (0<(s.best j).1) && decide (0≤yB (xV s.lems (s.best j).1)))):=rfl
 have hoff:s.offU j=(s.dcd 2 j || (decide (0<(s.best j).2) && decide (yB (xV s.lems (s.best j).2)≤0))):=rfl
 generalize s.onU j=on at *
 generalize s.offU j=off at *
 generalize s.dcd 1 j=d1 at *
 generalize s.dcd 2 j=d2 at *
 generalize (s.best j).1=b1 at *
 generalize (s.best j).2=b2 at *
 have o11:d1=true→on=true:=fun h=>by rw[hon,h];rfl
 have o12:d1=false→b1=0→on=false:=fun h g=>by rw[hon,h,g];rfl
 have o13:d1=false→∀ m,s.lems[b1 - 1]?=some m→0<b1→on=decide (0≤yB m.v.q):=fun h m hm g=>by rw[hon,h,hv b1 m hm,decide_eq_true g];rfl
 have o21:d2=true→off=true:=fun h=>by rw[hoff,h];rfl
 have o22:d2=false→b2=0→off=false:=fun h g=>by rw[hoff,h,g];rfl
 have o23:d2=false→∀ m,s.lems[b2 - 1]?=some m→0<b2→off=decide (yB m.v.q≤0):=fun h m hm g=>by rw[hoff,h,hv b2 m hm,decide_eq_true g];rfl
 clear hon hoff hv hs
 obtain⟨⟨⟨gn,us,os⟩,⟨lo,hi,rows⟩,⟨ts,c1,c2,c3⟩⟩,path,L⟩:=s
 dsimp only at csg hlen hb1 hb2 o13 o23
 cbv
 refine cA cd1 ?_
 cbv
 refine z5 (fun eA=>?_) (fun eA=>?_)
 ·have qA:=o11 eA
  cbv
  refine cA cd2 ?_
  cbv
  refine z5 (fun eB=>?_) (fun eB=>?_)
  ·have qB:=o21 eB
   cbv
   (refine rC ?_;cbv)
   exact⟨z7 qA,z7 qB,trivial⟩
  ·cbv
   refine zR (fun fB=>?_) (fun fB=>?_)
   ·have gB:b2≠0:=by (try dsimp only [zG] at *);omega
    obtain⟨mB,hmB,hlB⟩:=hb2 gB
    have qB:=o23 eB mB hmB (by omega)
    have csB:=csg mB (List.mem_of_getElem? hmB)
    have ixB:∀ {K:List PV→Prop},K (lc mB)→IdxOk 6 (fun _=>enc lc L) (fun _=>(b2:Int) - 1) K:=fun hK=>xC hmB (by omega) vD uO hK
    generalize yB mB.v.q=sgB at *
    cbv
    refine⟨zH om om,ixB ?_⟩
    cbv
    refine cA csB ?_
    cbv
    (refine rC ?_;cbv)
    exact⟨z7 qA,zX qB.symm,trivial⟩
   ·have qB:=o22 eB om
    cbv
    (refine rC ?_;cbv)
    exact⟨z7 qA,zM qB,trivial⟩
 ·cbv
  refine zR (fun fA=>?_) (fun fA=>?_)
  ·have gA:b1≠0:=by (try dsimp only [zG] at *);omega
   obtain⟨mA,hmA,hlA⟩:=hb1 gA
   have qA:=o13 eA mA hmA (by omega)
   have csA:=csg mA (List.mem_of_getElem? hmA)
   have ixA:∀ {K:List PV→Prop},K (lc mA)→IdxOk 6 (fun _=>enc lc L) (fun _=>(b1:Int) - 1) K:=fun hK=>xC hmA (by omega) vD uO hK
   generalize yB mA.v.q=sgA at *
   cbv
   refine⟨zH om om,ixA ?_⟩
   cbv
   refine cA csA ?_
   cbv
   refine cA cd2 ?_
   cbv
   refine z5 (fun eB=>?_) (fun eB=>?_)
   ·have qB:=o21 eB
    cbv
    (refine rC ?_;cbv)
    exact⟨zX qA.symm,z7 qB,trivial⟩
   ·cbv
    refine zR (fun fB=>?_) (fun fB=>?_)
    ·have gB:b2≠0:=by (try dsimp only [zG] at *);omega
     obtain⟨mB,hmB,hlB⟩:=hb2 gB
     have qB:=o23 eB mB hmB (by omega)
     have csB:=csg mB (List.mem_of_getElem? hmB)
     have ixB:∀ {K:List PV→Prop},K (lc mB)→IdxOk 6 (fun _=>enc lc L) (fun _=>(b2:Int) - 1) K:=fun hK=>xC hmB (by omega) vD uO hK
     generalize yB mB.v.q=sgB at *
     cbv
     refine⟨zH om om,ixB ?_⟩
     cbv
     refine cA csB ?_
     cbv
     (refine rC ?_;cbv)
     exact⟨zX qA.symm,zX qB.symm,trivial⟩
    ·have qB:=o22 eB om
     cbv
     (refine rC ?_;cbv)
     exact⟨zX qA.symm,zM qB,trivial⟩
  ·have qA:=o12 eA om
   cbv
   refine cA cd2 ?_
   cbv
   refine z5 (fun eB=>?_) (fun eB=>?_)
   ·have qB:=o21 eB
    cbv
    (refine rC ?_;cbv)
    exact⟨zM qA,z7 qB,trivial⟩
   ·cbv
    refine zR (fun fB=>?_) (fun fB=>?_)
    ·have gB:b2≠0:=by (try dsimp only [zG] at *);omega
     obtain⟨mB,hmB,hlB⟩:=hb2 gB
     have qB:=o23 eB mB hmB (by omega)
     have csB:=csg mB (List.mem_of_getElem? hmB)
     have ixB:∀ {K:List PV→Prop},K (lc mB)→IdxOk 6 (fun _=>enc lc L) (fun _=>(b2:Int) - 1) K:=fun hK=>xC hmB (by omega) vD uO hK
     generalize yB mB.v.q=sgB at *
     cbv
     refine⟨zH om om,ixB ?_⟩
     cbv
     refine cA csB ?_
     cbv
     (refine rC ?_;cbv)
     exact⟨zM qA,zX qB.symm,trivial⟩
    ·have qB:=o22 eB om
     cbv
     (refine rC ?_;cbv)
     exact⟨zM qA,zM qB,trivial⟩
end Go.Proofs.YtgcpehdkdnkgeaaGreat
