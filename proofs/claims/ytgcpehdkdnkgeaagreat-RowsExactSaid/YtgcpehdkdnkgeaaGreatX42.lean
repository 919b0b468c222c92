/- A part of the proof: LzD, LzE, EwE. -/
import Derived.Test.YtgcpehdkdnkgeaaGreatX41
set_option linter.all false
namespace Go.Proofs.YtgcpehdkdnkgeaaGreat
open Go
set_option maxRecDepth 100000
set_option maxHeartbeats 4000000
theorem zET {os:List F}{o:A}{X:Int→Rat}(hw:o.f.wf (os.length:Int)):∀ i,i≤o.ts.length→(qP os o i).at X=evS o.f (xr (os.map fun f=>f.at X)) i
 | 0,_=>by
  rw[mT]
  show o.c.q+0=o.c.q
  grind
 | i+1,h=>by
  obtain⟨t,ht⟩:=zS (l:=o.ts) (i:=i) (by omega)
  have hm:=List.mem_of_getElem? ht
  have hft:o.f.ts[i]?=some (t.1,t.2.q):=by show (tq o.ts)[i]?=_;unfold tq;rw[List.getElem?_map,ht];rfl
  have hv:=hw.v (t.1,t.2.q) (List.mem_of_getElem? hft)
  dsimp only at hv
  obtain⟨f,hf⟩:=zS (l:=os) (i:=t.1.toNat) (by omega)
  rw[aE ht,mU hft,zDQ,dT,zET hw i (by omega)]
  have eg:os.getD t.1.toNat F.zero=f:=by rw[List.getD_eq_getElem?_getD,hf];rfl
  have ex:xr (os.map fun f=>f.at X) t.1=f.at X:=by
   unfold xr
   rw[List.getElem?_map,hf]
   rfl
  rw[eg]
  show _=_+t.2.q * xr _ t.1
  rw[ex]
  grind
theorem zOL {os:List F}{o:A}{X:Int→Rat}(hw:o.f.wf (os.length:Int)):(qP os o o.ts.length).at X=o.f.at (xr (os.map fun f=>f.at X)):=by
 rw[zET hw o.ts.length (Nat.le_refl _)]
 have e:o.ts.length=o.f.ts.length:=by show _=(tq o.ts).length;unfold tq;rw[List.length_map]
 rw[e,iK]
theorem zKQ (raw at':List UInt8)(o:A)(hr:raw.length<2^38)(ha:at'.length<2^38)(ho:o.sz 2)(ht:o.ts.length≤6)(h:o.valid ((fdG raw 0).1.os.length:Int)=true) :
  ∃ (g:A) (P V Y:List R) (y:R),zB 47 [gv (fdG raw 0).1.g,av o] (.tup [av g,.int .i64 (fun _=>0)])∧zB 43 [u8v at',.int .i64 (fun _=>((fdG raw 0).1.n:Nat))] (rlv P) ∧
   zB 31 [gv (fdG raw 0).1.g,rlv P] (.tup [rlv V,.int .i64 (fun _=>0)])∧zB 49 [gv (fdG raw 0).1.g,rlv P] (.tup [rlv Y,.int .i64 (fun _=>0)]) ∧
   zB 32 [av g,rlv V] (.tup [rv y,.int .i64 (fun _=>0)])∧zB 32 [av o,rlv Y] (.tup [rv y,.int .i64 (fun _=>0)]) ∧
   zB 48 [av g,.int .i64 (fun _=>(fdG raw 0).1.g.vars)] (.bool (fun _=>true))∧zB 50 [rv y,rv y] (.bool (fun _=>true)):=by
 have hx:(fdG raw 0).1.small:=nT raw 0
 have hok:=cX raw 0
 have hv:(fdG raw 0).1.g.valid=true:=b9 raw
 have hz:(fdG raw 0).1.g.sz (2^32):=(xA raw 0).sz.g.mono (by decide)
 have hus:∀ (i:Nat) (f:F),(fdG raw 0).1.us[i]?=some f→f.wf (((fdG raw 0).1.n+i:Nat):Int):=hok.us
 have hos:∀ f,f∈(fdG raw 0).1.os→f.wf (((fdG raw 0).1.n+(fdG raw 0).1.us.length:Nat):Int):=hok.os
 have n2:=hx.n2
 have u4:=hx.us
 generalize (fdG raw 0).1=x at *
 have hpl:(mQ at' x.n 0).length=x.n:=mP _ _ _
 have hpf:=nS at' x.n 0
 generalize hP:mQ at' x.n 0=l at *
 obtain⟨VV,Q⟩:=vseq hx hus hpl (m:=1) (by decide) (by decide) hpf
 have hvl:(xJ x.us l).length=x.n+x.us.length:=by rw[gK,hpl]
 have hfit:∀ q,q∈xJ x.us l→Fits (2^24) q:=fun q hq=>Q.fit x.us.length q (by rw[Q.v9];exact hq)
 have hgw:(qP x.os o o.ts.length).wf ((x.n+x.us.length:Nat):Int):=zEU hos _
 have hgf:(qP x.os o o.ts.length).fl 400 7:=by
  have:=oO hx.of ho o.ts.length
  have hsh:=hgw.short
  exact⟨fun t h'=>(this.t t h').mono (by omega),this.c.mono (by omega),by omega⟩
 have hwf:=A.valid_wf h
 obtain⟨hco,hcn⟩:=gJ h
 have hof:o.f.fl 2 6:=⟨fun t h'=>by
  obtain⟨u,hu,rfl⟩:=List.mem_map.1 h'
  exact (ho.t.sz u hu).fits (by decide),ho.c.fits (by decide),by show (tq o.ts).length≤6;unfold tq;rw[List.length_map];exact ht⟩
 have hol:(outL x l).length=x.os.length:=by unfold outL;rw[List.length_map]
 have hofit:∀ q,q∈outL x l→Fits (2^27) q:=fun q hq=>by
  obtain⟨f,hf,rfl⟩:=List.mem_map.1 hq
  have hwf':=hos f hf
  rw[←hvl] at hwf'
  exact (uQ (hx.of f hf) (gI hwf' hfit)).mono (by decide)
 have e:o.f.at (xr (outL x l))=(qP x.os o o.ts.length).at (xr (xJ x.us l)):=(zOL hwf).symm
 have hgw':=hgw
 rw[←hvl] at hgw'
 have hwf':=hwf
 rw[←hol] at hwf'
 have c1:=tO (qP x.os o o.ts.length) (xJ x.us l) hgf hgw' hfit (by decide) (by decide) (by decide) (by decide) (by omega)
 have c2:=tO o.f (outL x l) hof hwf' hofit (by decide) (by decide) (by decide) (by decide) (by have:=hx.o2;omega)
 rw[hco,e] at c2
 have hyf:=uQ hgf (gI hgw' hfit)
 have c3:=s69 (zC ((qP x.os o o.ts.length).at (xr (xJ x.us l)))) _ ((zU hyf).mono (by decide)) ((zU hyf).mono (by decide))
 rw[decide_eq_true rfl] at c3
 have c4:=sR7V (fA (qP x.os o o.ts.length)) x.g.vars ((sS hgf (by decide)).mono (by decide))
 have hvars:x.g.vars=((x.n+x.us.length:Nat):Int):=by
  show (x.n:Int)+((x.us.map fA).length:Int)=_
  rw[List.length_map];omega
 rw[hvars,hgw.valid] at c4
 rw[←hvars] at c4
 have c5:=zLU at' x.n ha (by omega)
 rw[hP] at c5
 exact⟨_,_,_,_,_,zNX x o hx hv hz ho ht h,c5,eK x l hx hv hz hus hpl (m:=1) (by decide) (by decide) hpf,zJ7 x l hx hv hz hus hos hpl (m:=1) (by decide) (by decide) hpf,c1,c2,c4,c3⟩
theorem zSU (raw:List UInt8)(o:A)(at':List UInt8)(hr:raw.length≤9223372036854775807)(hol:o.ts.length≤9223372036854775807)(ha:at'.length≤9223372036854775807):zB 10 [u8v raw,av o,u8v at'] (.bool (fun _=>true)):=by
 refine sF Tryz.f10 ?_
 have ca:=bX
 have cs:raw.length≤400→zB 46 [u8v raw] (gv (fdG raw 0).1.g):=fun h=>zIO raw (by omega)
 have hv:(fdG raw 0).1.g.valid=true:=b9 raw
 have hz:(fdG raw 0).1.g.sz (2^32):=(xA raw 0).sz.g.mono (by decide)
 have cvv:o.sz 2→zB 48 [av o,.int .i64 (fun _=>((fdG raw 0).1.os.length:Int))] (.bool (fun _=>o.valid ((fdG raw 0).1.os.length:Int))):=fun h=>sR7V o _ (h.mono (by decide))
 have cvars:=eJ (fdG raw 0).1.g hz
 rw[if_pos hv] at cvars
 have hosl:(fdG raw 0).1.g.os.length=(fdG raw 0).1.os.length:=by show ((fdG raw 0).1.os.map fA).length=_;rw[List.length_map]
 have c0:o.sz 2→o.valid ((fdG raw 0).1.os.length:Int)=false→zB 47 [gv (fdG raw 0).1.g,av o] (.tup [av ⟨[],R0⟩,.int .i64 (fun _=>1)]):=fun h1 h2=>zJ3 (fdG raw 0).1.g o hv hz (h1.mono (by decide)) (by rw[hosl];exact h2)
 have ceq:=zPI ⟨[],R0⟩ ⟨[],R0⟩ ⟨⟨by show 0<2^38;decide,fun t ht=>absurd ht (by simp)⟩,mZ⟩ ⟨⟨by show 0<2^38;decide,fun t ht=>absurd ht (by simp)⟩,mZ⟩
 rw[decide_eq_true rfl] at ceq
 have facts:=fun h1 h2 h3 h4 h5=>zKQ raw at' o h1 h2 h3 h4 h5
 have hgn:(fdG raw 0).1.g.n=((fdG raw 0).1.n:Int):=rfl
 clear hv hz
 generalize (fdG raw 0).1.os.length=M at *
 generalize (fdG raw 0).1.n=n at *
 generalize (fdG raw 0).1.g.vars=vars at *
 generalize (fdG raw 0).1.g=G at *
 obtain⟨gn,us,os⟩:=G
 dsimp only at hosl hgn
 subst hgn
 obtain⟨T,oc,on,od⟩:=o
 dsimp only at hol
 cbv
 refine cA ca ?_
 cbv
 refine vH rfl ?_
 cbv
 refine zR (fun h1=>?_) (fun h1=>?_)
 ·cbv
  (refine rC ?_;cbv)
  exact z7 rfl
 cbv
 refine zR (fun h2=>?_) (fun h2=>?_)
 ·cbv
  (refine rC ?_;cbv)
  exact z7 rfl
 cbv
 refine zR (fun h3=>?_) (fun h3=>?_)
 ·cbv
  (refine rC ?_;cbv)
  exact z7 rfl
 cbv
 refine zR (fun h4=>?_) (fun h4=>?_)
 ·cbv
  (refine rC ?_;cbv)
  exact z7 rfl
 cbv
 refine zF (fun h5=>?_) (fun h5=>?_)
 ·cbv
  (refine rC ?_;cbv)
  exact z7 rfl
 have q1:raw.length≤400:=by rw[zA] at h1;(try dsimp only [zG] at *);omega
 have q2:at'.length≤40:=by rw[zA] at h2;(try dsimp only [zG] at *);omega
 have q3:T.length≤6:=by rw[zA] at h3;(try dsimp only [zG] at *);omega
 have q4:on.length≤2:=by rw[zK] at h4;(try dsimp only [zG] at *);omega
 have q5:od.length≤2:=by rw[zK] at h5;(try dsimp only [zG] at *);omega
 clear h1 h2 h3 h4 h5 ca hol hr ha
 cbv
 refine z4 (σ:=Nat) (fun i=>⟨[(0,u8v raw),(2,u8v at'),(4,.ptr 4 0),(7,.int .i64 (fun _=>(i:Int)))],[(4,.box [tsv T,.bool (fun _=>oc),nat on,nat od])]⟩)
  (fun i=>i≤T.length∧∀ (j:Nat) t,T[j]?=some t→j<i→t.2.sz 2) (fun i=>T.length - i) 0 ⟨Nat.zero_le _,fun j t _ h=>absurd h (by omega)⟩ (wkZ) ?_
 intro i hi'
 obtain⟨hi1,hi2⟩:=hi'
 cbv
 refine zF (fun h=>?_) (fun h=>?_)
 ·have hlt:i<T.length:=by rw[zA] at h;(try dsimp only [zG] at *);omega
  obtain⟨⟨tv,tn,tnum,tden⟩,ht⟩:=zS hlt
  clear facts c0 ceq cvars cvv cs
  cbv
  refine yF ht y4 y6 ?_
  cbv
  refine zR (fun h1=>?_) (fun h1=>?_)
  ·cbv
   (refine rC ?_;cbv)
   exact z7 rfl
  cbv
  refine yF ht y4 y6 ?_
  cbv
  refine zF (fun h2=>?_) (fun h2=>?_)
  ·cbv
   (refine rC ?_;cbv)
   exact z7 rfl
  have hs:(⟨tn,tnum,tden⟩:R).sz 2:=⟨by rw[zK] at h1;(try dsimp only [zG] at *);omega,by rw[zK] at h2;(try dsimp only [zG] at *);omega⟩
  have hsucc:∀ (j:Nat) t,T[j]?=some t→j<i+1→t.2.sz 2:=fun j t hj hlt'=>by
   by_cases e:j=i
   ·rw[e,ht] at hj;cases hj;exact hs
   ·exact hi2 j t hj (by omega)
  cbv
  exact⟨zH om om,i+1,⟨(by show i+1≤T.length;omega),hsucc⟩,(by show T.length - (i+1)<T.length - i;omega),wkZ⟩
 have hin:i=T.length:=by rw[zA] at h;(try dsimp only [zG] at *);omega
 subst hin
 have hsz:(⟨T,⟨oc,on,od⟩⟩:A).sz 2:=⟨⟨by show T.length<2^38;omega,fun t ht=>by
  obtain⟨j,hj⟩:=cC ht
  exact hi2 j t hj (List.getElem?_eq_some_iff.1 hj).1⟩,⟨q4,q5⟩⟩
 have cs':=cs q1
 have cvv':=cvv hsz
 have c0':=c0 hsz
 have facts':=facts (by omega) (by omega) hsz q3
 clear facts c0 cvv cs hi2 hi1 h
 generalize hvb:(⟨T,⟨oc,on,od⟩⟩:A).valid (M:Int)=vb at *
 cbv
 refine cA cs' ?_
 cbv
 cases vb with
 | false =>
  have c0'':=c0' rfl
  refine cA c0'' ?_
  cbv
  refine yQ rfl (by exact⟨okA,zE (by rw[zA,hosl]),trivial⟩) cvv' rfl ?_
  cbv
  refine cZ rfl ?_
  cbv
  refine xM rfl ?_
  cbv
  refine cA ceq ?_
  cbv
  (refine rC ?_;cbv)
  exact lR
 | true =>
  obtain⟨⟨gt,gc⟩,P,V,Y,⟨y1,y2,y3⟩,k1,k2,k3,k4,k5,k6,k7,k8⟩:=facts' rfl
  refine cA k1 ?_
  cbv
  refine yQ rfl (by exact⟨okA,zE (by rw[zA,hosl]),trivial⟩) cvv' rfl ?_
  cbv
  refine vH rfl ?_
  cbv
  refine cA k2 ?_
  cbv
  refine cA k3 ?_
  cbv
  refine cA k4 ?_
  cbv
  refine cA k5 ?_
  cbv
  refine cA k6 ?_
  cbv
  refine zO 13 (by cbv) ?_
  cbv
  refine xM rfl ?_
  cbv
  refine dA cvars ?_
  cbv
  refine dA k7 ?_
  cbv
  refine qQ rfl ?_
  cbv
  refine dA k8 ?_
  cbv
  (refine rC ?_;cbv)
  exact lR
structure BadQ (q:Qry):Prop where
 v:q.valid=false
 z:q.sz (2^20)
 n:q.g.n≤1000000
 r:q.r.rows.length≤1000000
 u:q.g.us.length≤1000000
theorem zK9 {q:Qry}(h:BadQ q)(X:List R)(hX:X.length<2^40) :
  ∃ f,zB 27 [sv ⟨q,[],[]⟩,rwv ⟨1,0,0,0⟩] (.tup [av f,.bool (fun _=>false)])∧zB 36 [qv q] (.bool (fun _=>false))∧zB 37 [qv q,dv ⟨3,0,R0⟩] (.bool (fun _=>false)) ∧
   zB 24 [sv ⟨q,[],[]⟩] (rsv [])∧zB 41 [sv ⟨q,[],[]⟩,rlv X] (.bool (fun _=>false)):=by
 have hs:(⟨q,[],[]⟩:Scp).sz (2^20):=⟨h.z,⟨by show 0<2^38;decide,fun a ha=>absurd ha (by simp)⟩,⟨by show 0<2^38;decide,fun a ha=>absurd ha (by simp),fun a ha=>absurd ha (by simp)⟩⟩
 have hf:(⟨q,[],[]⟩:Scp).fm ⟨1,0,0,0⟩=none:=by
  unfold Scp.fm
  rw[if_pos (.inr (.inr h.v))]
 have c1:=rB ⟨q,[],[]⟩ ⟨1,0,0,0⟩ (hs.mono (by decide))
 rw[hf] at c1
 have c2:=uS q (h.z.mono (by decide))
 rw[h.v] at c2
 have c3:=tN q ⟨3,0,R0⟩ (h.z.mono (by decide)) ⟨by show 0≤_;decide,by show 0≤_;decide⟩
 rw[h.v,Bool.false_and] at c3
 have c4:=zGJ ⟨q,[],[]⟩ hs h.n h.r (by show 0≤_;decide) h.u
 have ha:(⟨q,[],[]⟩:Scp).all=[]:=by unfold Scp.all;rw[if_pos h.v]
 rw[ha] at c4
 exact⟨_,c1,c2,c3,c4,zHG ⟨q,[],[]⟩ X (h.z.mono (by decide)) (.inl h.v) hX⟩
def badA (g:Grp):A:=⟨[(g.vars,zC ((1:Int):Rat))],R0⟩
theorem zLA (g:Grp){m:Int}(h:m≤g.vars):(badA g).valid m=false:=by
 have h':¬ g.vars<m:=by omega
 unfold A.valid badA
 simp [vT,h']
theorem zOG:(zC ((1:Int):Rat)).sz 43:=zU ((mO (z:=1) (by decide) (by decide):Fits 1 ((1:Int):Rat)).mono (by decide))
theorem zOZ (g:Grp):(badA g).sz 43:=⟨⟨by show 1<2^38;decide,fun t ht=>by
 obtain rfl:=List.mem_singleton.1 ht
 exact zOG⟩,⟨by show 0≤_;decide,by show 0≤_;decide⟩⟩
theorem s7 {α:Type}(p:α→Bool)(l:List α)(a:α)(h:p a=false):(l++[a]).all p=false:=by
 rw[List.all_append]
 simp [h]
theorem Asz.snoc {k:Nat}{l:List A}{a:A}(h:Asz k l)(hl:l.length<1000000)(ha:a.sz k):Asz k (l++[a]):=⟨by rw[List.length_append,List.length_singleton];omega,fun b hb=>by
 rcases List.mem_append.1 hb with hb|hb
 ·exact h.sz b hb
 ·obtain rfl:=List.mem_singleton.1 hb
  exact ha⟩
theorem zOY (raw:List UInt8) :
  BadQ ⟨(fdY raw 0).1.q.g,(fdY raw 0).1.q.r,badA (fdY raw 0).1.q.g⟩∧BadQ ⟨(fdY raw 0).1.q.g,⟨(fdY raw 0).1.q.r.lo,(fdY raw 0).1.q.r.hi,(fdY raw 0).1.q.r.rows++[badA (fdY raw 0).1.q.g]⟩,(fdY raw 0).1.q.goal⟩ ∧
  BadQ ⟨⟨(fdY raw 0).1.q.g.n,(fdY raw 0).1.q.g.us,(fdY raw 0).1.q.g.os++[badA (fdY raw 0).1.q.g]⟩,(fdY raw 0).1.q.r,(fdY raw 0).1.q.goal⟩∧BadQ ⟨(fdY raw 0).1.q.g,⟨(fdY raw 0).1.q.r.lo++[R0],(fdY raw 0).1.q.r.hi,(fdY raw 0).1.q.r.rows⟩,(fdY raw 0).1.q.goal⟩:=by
 have hx:=xA raw 0
 have hz:=hx.sz
 have n1:(fdY raw 0).1.q.g.n=((fdY raw 0).1.g.n:Int):=rfl
 have n2:=hx.g.n2
 have u4:=hx.g.us
 have hu:(fdY raw 0).1.q.g.us.length=(fdY raw 0).1.g.us.length:=by show (List.map fA _).length=_;rw[List.length_map]
 have ho:(fdY raw 0).1.q.g.os.length=(fdY raw 0).1.g.os.length:=by show (List.map fA _).length=_;rw[List.length_map]
 have o2:=hx.g.o2
 have hr:(fdY raw 0).1.q.r.rows.length=(fdY raw 0).1.r.rows.length:=by show (List.map fA _).length=_;rw[List.length_map]
 have r2:=hx.r.rows
 have hl:(fdY raw 0).1.q.r.lo.length=(fdY raw 0).1.g.n:=by show (List.map _ _).length=_;rw[List.length_map];exact hx.r.bs
 have hv:(fdY raw 0).1.q.g.vars=(fdY raw 0).1.q.g.n+((fdY raw 0).1.q.g.us.length:Int):=rfl
 have hb:=zOZ (fdY raw 0).1.q.g
 have hbn:=fun m=>zLA (fdY raw 0).1.q.g (m:=m)
 generalize (fdY raw 0).1.q=Q at *
 generalize (fdY raw 0).1.g.n=n at *
 generalize badA Q.g=B at *
 refine⟨⟨?_,⟨hz.g.mono (by decide),hz.r.mono (by decide),hb.mono (by decide)⟩,?_,?_,?_⟩,⟨?_,⟨hz.g.mono (by decide),⟨hz.r.lo.mono (by decide),hz.r.hi.mono (by decide),(hz.r.rows.snoc (by omega) hb).mono (by decide)⟩,hz.goal.mono (by decide)⟩,?_,?_,?_⟩,
  ⟨?_,⟨⟨hz.g.us.mono (by decide),(hz.g.os.snoc (by omega) hb).mono (by decide)⟩,hz.r.mono (by decide),hz.goal.mono (by decide)⟩,?_,?_,?_⟩,⟨?_,⟨hz.g.mono (by decide),⟨⟨?_,fun a ha=>?_⟩,hz.r.hi.mono (by decide),hz.r.rows.mono (by decide)⟩,hz.goal.mono (by decide)⟩,?_,?_,?_⟩⟩
 ·unfold Qry.valid
  rw[hbn _ (Int.le_refl _),Bool.and_false]
 ·show Q.g.n≤_;omega
 ·show Q.r.rows.length≤_;omega
 ·show Q.g.us.length≤_;omega
 ·unfold Qry.valid Reg.valid
  dsimp only
  rw[s7 _ _ _ (hbn _ (by omega)),Bool.and_false,Bool.and_false,Bool.false_and]
 ·show Q.g.n≤_;omega
 ·show (Q.r.rows++[B]).length≤_;rw[List.length_append,List.length_singleton];omega
 ·show Q.g.us.length≤_;omega
 ·have e:Grp.vars ⟨Q.g.n,Q.g.us,Q.g.os++[B]⟩=Q.g.vars:=rfl
  unfold Qry.valid Grp.valid
  dsimp only
  rw[e,s7 _ _ _ (hbn _ (Int.le_refl _)),Bool.and_false,Bool.false_and,Bool.false_and]
 ·show Q.g.n≤_;omega
 ·show Q.r.rows.length≤_;omega
 ·show Q.g.us.length≤_;omega
 ·unfold Qry.valid Reg.valid
  dsimp only
  rw[decide_eq_false (by rw[List.length_append,List.length_singleton];omega),Bool.false_and,Bool.false_and,Bool.and_false,Bool.false_and]
 ·rw[List.length_append,List.length_singleton];omega
 ·rcases List.mem_append.1 ha with ha | ha
  ·exact (hz.r.lo.sz a ha).mono (by decide)
  ·obtain rfl:=List.mem_singleton.1 ha
   exact⟨by show 0≤_;decide,by show 0≤_;decide⟩
 ·show Q.g.n≤_;omega
 ·show Q.r.rows.length≤_;omega
 ·show Q.g.us.length≤_;omega
theorem zSQ (raw:List UInt8)(d:Dec)(part:UInt8)(hr:raw.length≤9223372036854775807):zB 8 [u8v raw,dv d,.int .u8 (fun _=>(part.toNat:Int))] (.bool (fun _=>true)):=by
 refine sF Tryz.f8 ?_
 have ca:=bX
 have hx:=xA raw 0
 have hz:=hx.sz
 have cI:raw.length≤400→zB 35 [u8v raw] (qv (fdY raw 0).1.q):=fun h=>zJ5 raw (by omega)
 have cV:=uS (fdY raw 0).1.q (hz.mono (by decide))
 rw[hx.valid (cX raw 0)] at cV
 have cF:d.x.sz (2^20)→∃ b,zB 37 [qv (fdY raw 0).1.q,dv d] (.bool (fun _=>b))∧zB 38 [qv (fdY raw 0).1.q,dv d] (.bool (fun _=>b)):=fun h=>⟨_,tN _ d (hz.mono (by decide)) (h.mono (by decide)),zMU _ d (hz.mono (by decide)) (h.mono (by decide))⟩
 have cvars:=eJ (fdY raw 0).1.q.g (hz.g.mono (by decide))
 have hpv:(fdY raw 0).1.q.g.valid=true:=b9 raw
 rw[if_pos hpv] at cvars
 have cOf:=s32 1 (by decide) (by decide)
 have cIn:∃ X:List R,X.length<2^40∧zB 28 [rgv (fdY raw 0).1.q.r,u8v []] (rlv X):=⟨_,by rw[List.length_map,sP,hx.r.bs];have:=hx.g.n2;omega,zB7 (fdY raw 0).1.r [] hx.r (by have:=hx.g.n2;omega) (by decide)⟩
 obtain⟨X,hX,cIn⟩:=cIn
 obtain⟨b0,b1,b2,b3⟩:=zOY raw
 have hrl:(fdY raw 0).1.q.r.rows.length≤2:=by show (List.map fA _).length≤_;rw[List.length_map];exact hx.r.rows
 have hol:(fdY raw 0).1.q.g.os.length≤3:=by show (List.map fA _).length≤_;rw[List.length_map];exact hx.g.o2
 have hll:(fdY raw 0).1.q.r.lo.length≤3:=by show (List.map _ _).length≤_;rw[List.length_map,hx.r.bs];exact hx.g.n2
 have hbA:badA (fdY raw 0).1.q.g=⟨[((fdY raw 0).1.q.g.vars,zC ((1:Int):Rat))],R0⟩:=rfl
 rw[hbA] at b0 b1 b2
 clear hx hz hbA
 generalize (fdY raw 0).1.q=Q at *
 generalize zC ((1:Int):Rat)=O at *
 generalize Q.g.vars=vars at *
 obtain⟨⟨gn,us,os⟩,⟨lo,hi,rows⟩,⟨ts,c⟩⟩:=Q
 dsimp only at b0 b1 b2 b3 hrl hol hll
 obtain⟨rows2,hr2⟩:∃ l,rows++[⟨[(vars,O)],R0⟩]=l:=⟨_,rfl⟩
 obtain⟨os2,ho2⟩:∃ l,os++[⟨[(vars,O)],R0⟩]=l:=⟨_,rfl⟩
 obtain⟨lo2,hl2⟩:∃ l,lo++[R0]=l:=⟨_,rfl⟩
 rw[hr2] at b1
 rw[ho2] at b2
 rw[hl2] at b3
 obtain⟨dk,di,dx1,dx2,dx3⟩:=d
 cbv
 refine cA ca ?_
 cbv
 refine vH rfl ?_
 cbv
 refine zR (fun h1=>?_) (fun h1=>?_)
 ·cbv
  (refine rC ?_;cbv)
  exact z7 rfl
 cbv
 refine zR (fun h2=>?_) (fun h2=>?_)
 ·cbv
  (refine rC ?_;cbv)
  exact z7 rfl
 cbv
 refine zF (fun h3=>?_) (fun h3=>?_)
 ·cbv
  (refine rC ?_;cbv)
  exact z7 rfl
 have cI':=cI (by rw[zA] at h1;(try dsimp only [zG] at *);omega)
 obtain⟨bf,cF1,cF2⟩:=cF ⟨by rw[zK] at h2;(try dsimp only [zG] at *);omega,by rw[zK] at h3;(try dsimp only [zG] at *);omega⟩
 clear cI cF h1 h2 h3 ca
 cbv
 refine cA cI' ?_
 cbv
 refine zO 12 (by cbv) ?_
 cbv
 refine dA cV ?_
 cbv
 refine qQ rfl ?_
 cbv
 refine dA cF1 ?_
 cbv
 refine dA cF2 ?_
 cbv
 refine xT rfl ?_
 cbv
 refine cA cvars ?_
 cbv
 refine cA cOf ?_
 cbv
 refine cA cIn ?_
 cbv
 clear cV cF1 cF2 cvars cOf cIn cI'
 refine⟨wS om,?_⟩
 refine uV (σ:=Qry) (fun q=>⟨[(7,.ptr 7 0),(9,rlv X)],[(7,.box (qc q))]⟩) (fun q=>BadQ q) (fun e=>?_) (fun e=>?_) (fun q hq=>?_)
 ·cbv
  refine⟨⟨⟨gn,us,os⟩,⟨lo,hi,rows⟩,⟨[(vars,O)],R0⟩⟩,b0,.le ?_ ?_ rfl⟩
  ·cbv
   exact okA
  ·cbv
   exact⟨⟨lR,lR,lR,lR,lR,lR,zQ rfl,zM rfl,yX rfl,yX rfl,trivial⟩,trivial⟩
 ·cbv
  refine zF (fun e1=>?_) (fun e1=>?_)
  ·cbv
   refine zE3 7 [(4,78)] (.fresh 78 4 rfl) (by cbv) (by cbv) ?_
   cbv
   refine zE2 pM rfl (wN uR _) (yA om (by rw[zA];(try dsimp only [zG] at *);omega)) ?_
   cbv
   refine aO pM ?_
   cbv
   refine⟨⟨⟨gn,us,os⟩,⟨lo,hi,rows2⟩,⟨ts,c⟩⟩,b1,.trans (.frz 78 rfl rfl (by cbv;repeat' first | exact trivial | exact z8 (by simp [zA,zL]) | apply And.intro) (by cbv;repeat' first | exact trivial | exact z8 (by simp [zA,zL]) | apply And.intro)) (.le ?_ ?_ rfl)⟩
   ·cbv
    exact okA
   ·cbv
    exact⟨⟨lR,lR,lR,lR,lR,zQ (by rw[List.drop_zero,List.take_of_length_le (by simp [zA,zL])];rw[←hr2];exact qG ac rows ⟨[(vars,O)],R0⟩),lR,lR,lR,lR,trivial⟩,trivial⟩
  ·cbv
   refine zF (fun e2=>?_) (fun e2=>?_)
   ·cbv
    refine zE3 7 [(4,90)] (.fresh 90 4 rfl) (by cbv) (by cbv) ?_
    cbv
    refine zE2 pM rfl (wN uR _) (yA om (by rw[zA];(try dsimp only [zG] at *);omega)) ?_
    cbv
    refine aO pM ?_
    cbv
    refine⟨⟨⟨gn,us,os2⟩,⟨lo,hi,rows⟩,⟨ts,c⟩⟩,b2,.trans (.frz 90 rfl rfl (by cbv;repeat' first | exact trivial | exact z8 (by simp [zA,zL]) | apply And.intro) (by cbv;repeat' first | exact trivial | exact z8 (by simp [zA,zL]) | apply And.intro)) (.le ?_ ?_ rfl)⟩
    ·cbv
     exact okA
    ·cbv
     exact⟨⟨lR,lR,zQ (by rw[List.drop_zero,List.take_of_length_le (by simp [zA,zL])];rw[←ho2];exact qG ac os ⟨[(vars,O)],R0⟩),lR,lR,lR,lR,lR,lR,lR,trivial⟩,trivial⟩
   ·cbv
    refine aN qS rfl rfl (wN xE _) (yA (by simp only[zA];omega) (by simp only[zA];omega)) rfl ?_
    cbv
    refine aO qS ?_
    cbv
    refine⟨⟨⟨gn,us,os⟩,⟨lo2,hi,rows⟩,⟨ts,c⟩⟩,b3,.trans (.frz 62 rfl rfl (by cbv;repeat' first | exact trivial | exact z8 (by simp [zA,zL]) | apply And.intro) (by cbv;repeat' first | exact trivial | exact z8 (by simp [zA,zL]) | apply And.intro)) (.le ?_ ?_ rfl)⟩
    ·cbv
     exact okA
    ·cbv
     exact⟨⟨lR,lR,lR,zQ (by rw[List.drop_zero,List.take_of_length_le (by simp [zA,zL])];rw[←hl2];exact qG rc lo R0),lR,lR,lR,lR,lR,lR,trivial⟩,trivial⟩
 ·obtain⟨⟨ft,fc⟩,k1,k2,k3,k4,k5⟩:=zK9 hq X hX
  obtain⟨⟨gn',us',os'⟩,⟨lo',hi',rows'⟩,⟨ts',c'⟩⟩:=q
  clear b0 b1 b2 b3
  cbv
  refine cA k1 ?_
  cbv
  refine cA k2 ?_
  cbv
  refine pK rfl ?_
  cbv
  refine cA k3 ?_
  cbv
  refine pK rfl ?_
  cbv
  refine cA k4 ?_
  cbv
  refine xM rfl ?_
  cbv
  refine pK rfl ?_
  cbv
  refine cA k5 ?_
  cbv
  (refine rC ?_;cbv)
  exact xX rfl
theorem zJ6 (x:FReg)(raw:List UInt8){n:Nat}(hx:x.small n)(hn:n≤1000)(hr:raw.length<2^38):Sound 28 [rgv x.g,u8v raw] [] [] (.osl 5 3 (fun _=>0) (fun _=>((jE raw 0 x.bs).map zC).length)) [] [(5,.arr 3 (fun _=>enc rc ((jE raw 0 x.bs).map zC)))]:=by
 refine sF Tryz.f28 ?_
 have hbl:=hx.bs
 have facts:∀ i,i<n→∃ (K:Nat) (part lo hi d m y:R),(x.bs.map fun b=>zC b.1)[i]?=some lo∧(x.bs.map fun b=>zC b.2)[i]?=some hi∧zB 68 [.int .i64 (fun _=>(K:Int)),.int .i64 (fun _=>8)] (.tup [rv part,.int .i64 (fun _=>0)]) ∧
   zB 87 [rv hi,rv lo] (rv d)∧zB 57 [rv part,rv d] (rv m)∧zB 52 [rv lo,rv m] (rv y)∧(((jE raw 0 x.bs).take (i+1)).map zC=((jE raw 0 x.bs).take i).map zC++[y]) ∧
   (i<raw.length→∃ w,raw[i]?=some w∧nx .i64 (irem (w.toNat:Int) 9)=(K:Int))∧(¬ i<raw.length→K=0):=fun i hi=>by
  obtain⟨b,hb⟩:=zS (l:=x.bs) (i:=i) (by omega)
  obtain⟨f1,f2⟩:=hx.bf b (List.mem_of_getElem? hb)
  have hK:=zCI raw i
  have c1:=s43 (r5 raw i:Int) 8 (by omega) (by omega) (by decide) (by decide) (by decide)
  have c2:=s93 (zC b.2) (zC b.1) ((zU f2).mono (by decide)) ((zU f1).mono (by decide))
  rw[zY,zY] at c2
  have f3:=qE f2 f1
  have c3:=s77 (zC (uD (r5 raw i:Int) 8)) (zC (b.2 - b.1)) ((zU (sO hK)).mono (by decide)) ((zU f3).mono (by decide))
  rw[zY,zY] at c3
  have c4:=s44 (zC b.1) (zC (uD (r5 raw i:Int) 8 * (b.2 - b.1))) ((zU f1).mono (by decide)) ((zU (xP (sO hK) f3)).mono (by decide))
  rw[zY,zY] at c4
  have g:=oM raw (i:=0) hb
  rw[Nat.zero_add] at g
  refine⟨r5 raw i,_,_,_,_,_,_,by rw[List.getElem?_map,hb];rfl,by rw[List.getElem?_map,hb];rfl,c1,c2,c3,c4,cM _ g,fun h=>?_,fun h=>?_⟩
  ·obtain⟨w,hw⟩:=zS h
   refine⟨w,hw,?_⟩
   rw[remn]
   unfold r5
   rw[if_pos h,List.getD_eq_getElem?_getD,hw]
   rfl
  ·unfold r5
   rw[if_neg h]
 have hIl:(jE raw 0 x.bs).length=n:=by rw[sP,hbl]
 obtain⟨W,hW⟩:∃ W:Nat→List R,∀ i,((jE raw 0 x.bs).take i).map zC=W i:=⟨_,fun _=>rfl⟩
 have w0:W 0=[]:=by rw[←hW];rfl
 have wl:∀ i,i≤n→(W i).length=i:=fun i h=>by rw[←hW,List.length_map,List.length_take];omega
 have w9:(jE raw 0 x.bs).map zC=W n:=by rw[←hW,←hIl,List.take_length]
 simp only[hW] at facts
 rw[w9]
 have e:rgv x.g=.agg [rlv (x.bs.map fun b=>zC b.1),rlv (x.bs.map fun b=>zC b.2),alv (x.rows.map fA)]:=rfl
 rw[e]
 have hLl:(x.bs.map fun b=>zC b.1).length=n:=by rw[List.length_map,hbl]
 clear hW w9 hx hIl e hbl
 generalize x.bs.map (fun b=>zC b.1)=LO at *
 generalize x.bs.map (fun b=>zC b.2)=HI at *
 generalize x.rows.map fA=RW at *
 cbv
 refine z4 (σ:=Nat) (fun i=>⟨[(1,u8v raw),(2,.ptr 2 0),(5,.osl 5 3 (fun _=>0) (fun _=>(W i).length)),(6,.int .i64 (fun _=>(i:Int)))],[(2,.box [rlv LO,rlv HI,alv RW]),(5,.arr 3 (fun _=>enc rc (W i)))]⟩)
  (fun i=>i≤n) (fun i=>n - i) 0 (Nat.zero_le _)
  (.trans (wkZ (ps':=⟨[(1,u8v raw),(2,.ptr 2 0),(5,.nil),(6,.int .i64 (fun _=>((0:Nat):Int)))],[(2,.box [rlv LO,rlv HI,alv RW])]⟩)) (.trans (.adoptT (ps:=⟨[(1,u8v raw),(2,.ptr 2 0),(5,.nil),(6,.int .i64 (fun _=>((0:Nat):Int)))],[(2,.box [rlv LO,rlv HI,alv RW])]⟩) 5 3 5 rfl rfl) (wkY (by cbv;repeat' first | exact trivial | exact lR | exact zE om | exact zW rfl (by first | rfl | (rw[w0];done) | (simp [zL,zA];done) | (rw[w0];simp [zL,zA];done)) | exact zI (by first | rfl | (rw[w0];done) | (rw[w0];rfl) | (rw[←zT];rfl) | (rw[w0,←zT];rfl)) | apply And.intro)))) ?_
 intro i hi'
 have hwi:=wl i hi'
 cbv
 refine zF (fun h=>?_) (fun h=>?_)
 ·have hlt:i<n:=by rw[zA,hLl] at h;(try dsimp only [zG] at *);omega
  obtain⟨K,part,lo,hi,d,m,y,g1,g2,c1,c2,c3,c4,g3,k1,k2⟩:=facts i hlt
  clear facts wl
  generalize W i=Wi at *
  cbv
  refine uV (σ:=Unit) (fun _=>⟨[(1,u8v raw),(2,.ptr 2 0),(5,.osl 5 3 (fun _=>0) (fun _=>Wi.length)),(6,.int .i64 (fun _=>(i:Int))),(7,.int .i64 (fun _=>(K:Int)))],[(2,.box [rlv LO,rlv HI,alv RW]),(5,.arr 3 (fun _=>enc rc Wi))]⟩) (fun _=>True) (fun e=>?_) (fun e=>?_) (fun _ _=>?_)
  ·obtain⟨w,hw,hk⟩:=k1 (jR e)
   cbv
   refine yF hw c7 bR ?_
   cbv
   refine⟨wS om,?_⟩
   cbv
   exact⟨(),trivial,.le (by cbv;exact⟨lR,lR,lR,lR,zE hk,trivial⟩) okZ rfl⟩
  ·have hk:=k2 (fun h=>e (by rw[zA];(try dsimp only [zG] at *);omega))
   subst hk
   cbv
   exact⟨(),trivial,.le (by cbv;exact⟨lR,lR,lR,lR,zE rfl,trivial⟩) okZ rfl⟩
  ·clear k1 k2
   cbv
   refine cA c1 ?_
   cbv
   refine zO 21 (by cbv) ?_
   cbv
   refine yF g1 yU xE ?_
   cbv
   refine yF g2 yU xE ?_
   cbv
   refine yF g1 yU xE ?_
   cbv
   refine dA c2 ?_
   cbv
   refine dA c3 ?_
   cbv
   refine dA c4 ?_
   cbv
   refine aO qS ?_
   cbv
   exact⟨zH om om,i+1,(by show i+1≤n;omega),(by show n - (i+1)<n - i;omega),wkY (by cbv;repeat' first | exact trivial | exact lR | exact zE om | exact zW rfl (by first | rfl | (rw[g3];done) | (simp [zL,zA];done) | (rw[g3];simp [zL,zA];done)) | exact zI (by first | rfl | (rw[g3];done) | (rw[g3];rfl) | (rw[←zT];rfl) | (rw[g3,←zT];rfl)) | apply And.intro)⟩
 have hin:i=n:=by rw[zA,hLl] at h;(try dsimp only [zG] at *);omega
 rw[hin]
 clear hin hwi hi' h facts wl
 generalize W n=X' at *
 cbv
 refine zFD (ps':=⟨[(4,.osl 5 3 (fun _=>0) (fun _=>X'.length))],[(5,.arr 3 (fun _=>enc rc X'))]⟩) 5 (.le ?_ ?_ rfl) rfl rfl rfl ?_
 ·cbv
  exact okA
 ·cbv
  exact⟨zI rfl,trivial⟩
 ·cbv
  exact lR
def xcC (at':List UInt8) (j:Nat):Rat:=match at'[j+4]? with
 | none=>0
 | some b=>if b.toNat % 4=0 then (((b.toNat % 3:Nat):Int):Rat) else 0
theorem zJP (at':List UInt8)(j:Nat):Fits 1 (xcC at' j):=by
 unfold xcC
 split
 ·exact wH (by decide)
 ·rename_i b _
  split
  ·have h:=Nat.mod_lt b.toNat (show 0<3 by decide)
   exact mO (by rw[Nat.pow_one];have:B=4294967296:=rfl;omega) (by decide)
  ·exact wH (by decide)
def xcV (us:List F) (c:Nat→Rat) (l:List Rat):Nat→List Rat
 | 0=>l
 | j+1=>match us[j]? with
  | none=>xcV us c l j
  | some f=>xcV us c l j++[uZ (f.at (xr (xcV us c l j))) 0+c j]
theorem iR {us:List F}{c:Nat→Rat}{l:List Rat}{j:Nat}{f:F}(h:us[j]?=some f):xcV us c l (j+1)=xcV us c l j++[uZ (f.at (xr (xcV us c l j))) 0+c j]:=by
 rw[xcV,h]
theorem zBS {us:List F}{c:Nat→Rat}{l:List Rat}:∀ j,j≤us.length→(xcV us c l j).length=l.length+j
 | 0,_=>rfl
 | j+1,h=>by
  obtain⟨f,hf⟩:=zS (l:=us) (i:=j) (by omega)
  rw[iR hf,List.length_append,List.length_singleton,zBS j (by omega)]
  omega
def xcB:Nat→Nat
 | 0=>20
 | j+1=>8 * xcB j+400
theorem zLD:∀ j,20≤xcB j
 | 0=>by decide
 | j+1=>by have:=zLD j;show 20≤8 * xcB j+400;omega
theorem zP2 {j:Nat}(h:j≤4):xcB j≤2^20:=by
 match j,h with
 | 0,_=>decide
 | 1,_=>decide
 | 2,_=>decide
 | 3,_=>decide
 | 4,_=>decide
theorem zDV {us:List F}{c:Nat→Rat}{l:List Rat}(hw:∀ (i:Nat) (f:F),us[i]?=some f→f.wf ((l.length+i:Nat):Int))(hf:∀ f,f∈us→f.fl 43 7)(hc:∀ j,Fits 1 (c j))(hl:∀ q,q∈l→Fits 20 q) :
  ∀ j,j≤us.length→∀ q,q∈xcV us c l j→Fits (xcB j) q
 | 0,_,q,hq=>hl q hq
 | j+1,h,q,hq=>by
  obtain⟨f,hfj⟩:=zS (l:=us) (i:=j) (by omega)
  have ih:=zDV hw hf hc hl j (by omega)
  have hb:=zLD j
  have hwf:=hw j f hfj
  rw[←zBS (us:=us) (c:=c) (l:=l) j (by omega)] at hwf
  rw[iR hfj] at hq
  rcases List.mem_append.1 hq with hq | hq
  ·exact (ih q hq).mono (by show xcB j≤8 * xcB j+400;omega)
  ·obtain rfl:=List.mem_singleton.1 hq
   exact (vA (mN (uQ (hf f (List.mem_of_getElem? hfj)) (gI (m:=xcB j) hwf ih)) (wH (k:=1) (by decide))) (hc j)).mono (by show _≤8 * xcB j+400;omega)
theorem zA3 {s:Scp}(hv:s.q.valid=true){j:Nat}(hj:j<s.q.g.us.length){r:Row}(h:r∈s.rowsU (j:Int)):r∈s.all:=by
 unfold Scp.all
 rw[if_neg (by rw[hv];decide)]
 exact List.mem_append_right _ (List.mem_flatMap.2 ⟨j,List.mem_range.2 hj,h⟩)
theorem zFX {s:Scp}{X:Int→Rat}(hv:s.q.valid=true){j:Nat}{p:F}(hp:s.q.g.us[j]?=some (fA p))(hX:∀ r f,r∈s.all→s.fm r=some f→0≤f.at X)(h:s.onU j=true∨s.offU j=true):X (s.q.g.n+j)=uZ (p.at X) 0:=by
 have hj:j<s.q.g.us.length:=(List.getElem?_eq_some_iff.1 hp).1
 by_cases hon:s.onU j=true
 ·obtain⟨b,hb⟩:∃ b:Int,b=if s.dcd 1 j=true then 0 else ((s.best j).1:Int):=⟨_,rfl⟩
  have hm:∀ r,r∈([⟨6,j,0,0⟩,⟨7,j,b,0⟩,⟨8,j,b,0⟩]:List Row)→r∈s.all:=fun r hr=>zA3 hv hj (by
   unfold Scp.rowsU
   rw[if_pos hon]
   refine List.mem_append_left _ (List.mem_append_left _ ?_)
   unfold Scp.rowsOn
   rw[←hb]
   exact hr)
  have h1:=hX ⟨6,j,0,0⟩ ((F.var (s.q.g.n+j)).sub p) (hm _ (by simp)) (by rw[kE hv (by decide) (by decide) hp];rfl)
  have h2:=hX ⟨7,j,b,0⟩ (p.add F.zero) (hm _ (by simp)) (by
   rw[kE hv (by decide) (by decide) hp]
   show (if onB s ⟨7,j,b,0⟩ _ _=true then _ else none)=_
   rw[if_pos (zCB hon hb)])
  have h3:=hX ⟨8,j,b,0⟩ (p.sub (F.var (s.q.g.n+j))) (hm _ (by simp)) (by
   rw[kE hv (by decide) (by decide) hp]
   show (if onB s ⟨8,j,b,0⟩ _ _=true then _ else none)=_
   rw[if_pos (zCB hon hb)])
  rw[dS,gX] at h1 h3
  rw[zDQ] at h2
  have hz:F.zero.at X=0:=s6 X 0
  rw[hz] at h2
  unfold uZ
  split <;> grind
 ·have hoff:s.offU j=true:=h.resolve_left hon
  obtain⟨b,hb⟩:∃ b:Int,b=if s.dcd 2 j=true then 0 else ((s.best j).2:Int):=⟨_,rfl⟩
  have hm:∀ r,r∈([⟨5,j,0,0⟩,⟨9,j,0,b⟩,⟨10,j,0,b⟩]:List Row)→r∈s.all:=fun r hr=>zA3 hv hj (by
   unfold Scp.rowsU
   rw[if_pos hoff]
   refine List.mem_append_left _ (List.mem_append_right _ ?_)
   unfold Scp.rowsOff
   rw[←hb]
   exact hr)
  have h1:=hX ⟨5,j,0,0⟩ (F.var (s.q.g.n+j)) (hm _ (by simp)) (by rw[kE hv (by decide) (by decide) hp];rfl)
  have h2:=hX ⟨9,j,0,b⟩ (p.scale (-1)) (hm _ (by simp)) (by
   rw[kE hv (by decide) (by decide) hp]
   show (if sI s ⟨9,j,0,b⟩ _ _=true then _ else none)=_
   rw[if_pos (eX hoff hb)])
  have h3:=hX ⟨10,j,0,b⟩ ((F.var (s.q.g.n+j)).scale (-1)) (hm _ (by simp)) (by
   rw[kE hv (by decide) (by decide) hp]
   show (if sI s ⟨10,j,0,b⟩ _ _=true then _ else none)=_
   rw[if_pos (eX hoff hb)])
  rw[gX] at h1
  rw[dT] at h2 h3
  rw[gX] at h3
  unfold uZ
  split <;> grind
end Go.Proofs.YtgcpehdkdnkgeaaGreat
