/- A part of the proof: SoC, SqE. -/
import Derived.Test.YtgcpehdkdnkgeaaGreatV40
set_option linter.all false
namespace Go.Proofs.YtgcpehdkdnkgeaaGreat
open Go
set_option maxRecDepth 100000
set_option maxHeartbeats 2000000
theorem zMH:Pg.funcs[205]?=some Tryz.f205:=by rw[jB];rfl
theorem zR8 (x:Mult)(P B S R0 R3:List Mult)(a m b N:Nat)(hB0:0<B.length)(hB:Srt B)(ha:a=P.length)(hm:m=a+1)(hb:b=m+B.length)(hN:N=b+S.length)(hl:N<2^38)
  (e0:R0=P++([x]++(B++S))) (e3:R3=P++(mrgM [x] B++S)):Sound 205 [.osl 1000000 7 (fun _=>0) (fun _=>N),.int .i64 (fun _=>(a:Int)),.int .i64 (fun _=>(m:Int)),.int .i64 (fun _=>(b:Int)),.fn 119 []] (mao 1000000 R0) [] (.tup []) (mao 1000000 R3) []:=by
 refine uM zMH rfl rfl rfl rfl rfl ?_
 obtain⟨Z,hZ⟩:∃ Z:Nat→List Mult,∀ k,Z k=shA P x B S (k - a):=⟨_,fun _=>rfl⟩
 obtain⟨U,hU⟩:∃ U:Nat→Prop,∀ i,U i=loU x B (i - m):=⟨_,fun _=>rfl⟩
 obtain⟨V,hV⟩:∃ V:Nat→Prop,∀ i,V i=loV x B (i - m):=⟨_,fun _=>rfl⟩
 have hz0:Z a=R0:=by rw[hZ,e0,Nat.sub_self];unfold shA;simp
 have hL:∀ k,(Z k).length=N:=fun k=>by rw[hZ,zGM];omega
 have hR0:R0.length=N:=by rw[←hz0,hL]
 have hu0:U m:=by rw[hU,Nat.sub_self];intro y hy;rw[List.take_zero] at hy;exact absurd hy (by simp)
 have hv0:V b:=by rw[hV];intro y hy;rw[List.drop_of_length_le (by omega)] at hy;exact absurd hy (by simp)
 have hbin:∀ h,m≤h→h<b→∃ y,R0[h]?=some y∧R0[a]?=some x∧(xP y.row x.row<0→U (h+1))∧(¬ xP y.row x.row<0→V h):=fun h h1 h2=>by
  obtain⟨y,g1,g2,g3⟩:=zNY (x:=x) hB (r:=h - m) (by omega)
  refine⟨y,?_,by rw[e0];exact cK ha,fun g=>?_,fun g=>?_⟩
  ·rw[e0,←List.append_assoc];exact zCY g1 (by rw[List.length_append,List.length_singleton];omega)
  ·rw[hU,show h+1 - m=h - m+1 by omega];exact g2 ((f9 _ _).1 g)
  ·rw[hV];exact g3 (fun k=>g ((f9 _ _).2 k))
 have hend:∀ i,m≤i→U i→V i→Z (i - 1)=R3:=fun i h1 g1 g2=>by
  rw[hU] at g1
  rw[hV] at g2
  rw[hZ,e3,zQ0 g1 g2,show i - 1 - a=i - m by omega]
  unfold shA
  simp
 have hst:∀ k,a≤k→k+1<b→∃ y,(Z k)[k]?=some x∧(Z k)[k+1]?=some y∧Z (k+1)=((Z k).set k y).set (k+1) x:=fun k h1 h2=>by
  obtain⟨y,g1,g2,g3,_⟩:=zDH P x B S (p:=k - a) (by omega)
  rw[hZ,hZ,show k+1 - a=k - a+1 by omega]
  rw[show P.length+(k - a)=k by omega] at g1 g2 g3
  exact⟨y,g1,g2,g3⟩
 have hmb:m<b:=by omega
 have hbN:b≤N:=by omega
 have hcmp:=zIW
 clear hZ hU hV e0 e3 hB ha hb hN hB0
 cbv
 refine⟨zD om om,?_⟩
 refine xI om ?_
 cbv
 refine zY (σ:=Nat × Nat) (fun s=>⟨[(0,.osl 1000000 7 (fun _=>0) (fun _=>N)),(1,.int .i64 (fun _=>(a:Int))),(4,.fn 119 []),(10,.int .i64 (fun _=>(s.1:Int))),(11,.int .i64 (fun _=>(s.2:Int)))],[(1000000,.arr 7 (fun _=>enc mc R0))]⟩)
  (fun s=>m≤s.1∧s.1≤s.2∧s.2≤b∧U s.1∧V s.2) (fun s=>s.2 - s.1) (m,b) ⟨Nat.le_refl _,Nat.le_of_lt hmb,Nat.le_refl _,hu0,hv0⟩ (.le ?_ ?_ rfl) ?_
 ·cbv;exact okA
 ·cbv;exact⟨zF rfl,trivial⟩
 clear hu0 hv0
 intro s hs
 obtain⟨f1,f2,f3,f4,f5⟩:=hs
 generalize s.1=i at *
 generalize s.2=j at *
 cbv
 refine zH (fun h5=>?_) (fun h5=>?_)
 ·have hij:i<j:=by (try dsimp only [zG] at *);omega
  obtain⟨h,hh⟩:∃ h,h=(i+j) / 2:=⟨_,rfl⟩
  have hi1:i≤h:=by omega
  have hi2:h<j:=by omega
  obtain⟨y,y1,y2,y3,y4⟩:=hbin h (by omega) (by omega)
  have hc:=hcmp y x
  clear hbin hst hend hz0 hL hcmp
  generalize xP y.row x.row=cr at *
  cbv
  refine⟨zD om om,wJ (by decide),?_⟩
  refine fZ 11 (.le (ps':=⟨[(0,.osl 1000000 7 (fun _=>0) (fun _=>N)),(1,.int .i64 (fun _=>(a:Int))),(4,.fn 119 []),(10,.int .i64 (fun _=>(i:Int))),(11,.int .i64 (fun _=>(j:Int))),(12,.int .i64 (fun _=>(h:Int)))],[(1000000,.arr 7 (fun _=>enc mc R0))]⟩) ?_ ?_ rfl) (by cbv) ?_
  ·cbv;exact⟨lR,lR,lR,lR,zC ((zIY i j (by omega)).trans (by rw[hh])),trivial⟩
  ·cbv;exact⟨zF rfl,trivial⟩
  cbv
  refine⟨yD om om,?_⟩
  cbv
  refine wY (l:=R0) h om (by omega) yS yO (fun t ht=>?_)
  obtain rfl:y=t:=by rw[y1] at ht;exact Option.some.inj ht
  cbv
  refine⟨yD om om,?_⟩
  cbv
  refine wY (l:=R0) a om (by omega) yS yO (fun t ht=>?_)
  obtain rfl:x=t:=by rw[y2] at ht;exact Option.some.inj ht
  cbv
  refine dA hc ?_
  cbv
  refine zH (fun h6=>?_) (fun h6=>?_)
  ·cbv
   refine⟨zD om om,(h+1,j),⟨by simp only[];omega,by simp only[];omega,by simp only[];omega,y3 h6,f5⟩,by simp only[];omega,.le ?_ ?_ rfl⟩
   ·cbv;exact⟨lR,lR,zC om,lR,trivial⟩
   ·cbv;exact⟨zF rfl,trivial⟩
  ·cbv
   refine⟨(i,h),⟨by simp only[];omega,by simp only[];omega,by simp only[];omega,f4,y4 h6⟩,by simp only[];omega,.le ?_ ?_ rfl⟩
   ·cbv;exact okA
   ·cbv;exact⟨zF rfl,trivial⟩
 ·obtain rfl:i=j:=by (try dsimp only [zG] at *);omega
  have hZe:=hend i f1 f4 f5
  clear hbin hend hcmp
  cbv
  refine zY (σ:=Nat) (fun k=>⟨[(0,.osl 1000000 7 (fun _=>0) (fun _=>N)),(10,.int .i64 (fun _=>(i:Int))),(13,.int .i64 (fun _=>(k:Int)))],[(1000000,.arr 7 (fun _=>enc mc (Z k)))]⟩)
   (fun k=>a≤k∧k+1≤i) (fun k=>i - k) a ⟨Nat.le_refl _,by omega⟩ (.le ?_ ?_ rfl) ?_
  ·cbv;exact okA
  ·cbv;exact⟨zF (by rw[hz0]),trivial⟩
  intro k hk
  obtain⟨k1,k2⟩:=hk
  cbv
  refine⟨zD om om,zH (fun h6=>?_) (fun h6=>?_)⟩
  ·have hk3:k+1<i:=by (try dsimp only [zG] at *);omega
   obtain⟨y,hx,hy,hs⟩:=hst k k1 (by omega)
   have hLi:=hL k
   clear hst hL hZe hz0
   generalize Z k=arr at *
   cbv
   refine l8 17 15 (by cbv) (by cbv) ?_
   cbv
   refine⟨zD om om,zD om om,yD om om,?_⟩
   cbv
   refine wY (l:=arr) (k+1) om (by omega) yS yO (fun t ht=>?_)
   obtain rfl:y=t:=by rw[hy] at ht;exact Option.some.inj ht
   cbv
   refine⟨yD om om,?_⟩
   cbv
   refine wY (l:=arr) k om (by omega) yS yO (fun t ht=>?_)
   obtain rfl:x=t:=by rw[hx] at ht;exact Option.some.inj ht
   cbv
   refine⟨yD om om,?_⟩
   cbv
   refine wY (l:=arr) k om (by omega) yS yO (fun t0 ht0=>?_)
   cbv
   refine⟨yD om om,l7 (p:=mc) (arr.set k y) ?_ (k+1) om (by rw[List.length_set];omega) yS yO (fun t1 ht1=>?_)⟩
   ·show (enc mc arr).set (0+(k:Int).toNat) (yW (mc y))=_
    rw[w5]
    congr 2
    omega
   cbv
   refine⟨zD om om,k+1,⟨om,om⟩,om,.le ?_ ?_ rfl⟩
   ·cbv;exact⟨lR,lR,zC om,trivial⟩
   ·cbv
    refine⟨zF ?_,trivial⟩
    show ((enc mc arr).set (0+(k:Int).toNat) (yW (mc y))).set (0+((k:Int)+1).toNat) (yW (mc x))=_
    rw[w5,w5,show 0+(k:Int).toNat=k by omega,show 0+((k:Int)+1).toNat=k+1 by omega,hs]
  ·have hk3:k=i - 1:=by (try dsimp only [zG] at *);omega
   subst hk3
   cbv
   refine u9 (.le (ps':=⟨[],[(1000000,.arr 7 (fun _=>enc mc R3))]⟩) ?_ ?_ rfl) rfl trivial rfl rfl rfl rfl
   ·trivial
   ·cbv
    exact⟨zF (by rw[hZe]),trivial⟩
theorem zR7 (y:Mult)(P A S R0 R3:List Mult)(a m b N:Nat)(hA0:1<A.length)(hA:Srt A)(ha:a=P.length)(hm:m=a+A.length)(hb:b=m+1)(hN:N=b+S.length)(hl:N<2^38)
  (e0:R0=P++(A++([y]++S))) (e3:R3=P++(mrgM A [y]++S)):Sound 205 [.osl 1000000 7 (fun _=>0) (fun _=>N),.int .i64 (fun _=>(a:Int)),.int .i64 (fun _=>(m:Int)),.int .i64 (fun _=>(b:Int)),.fn 119 []] (mao 1000000 R0) [] (.tup []) (mao 1000000 R3) []:=by
 refine uM zMH rfl rfl rfl rfl rfl ?_
 obtain⟨Z,hZ⟩:∃ Z:Nat→List Mult,∀ k,Z k=shA P y A S (k - a):=⟨_,fun _=>rfl⟩
 obtain⟨U,hU⟩:∃ U:Nat→Prop,∀ i,U i=hiU y A (i - a):=⟨_,fun _=>rfl⟩
 obtain⟨V,hV⟩:∃ V:Nat→Prop,∀ i,V i=hiV y A (i - a):=⟨_,fun _=>rfl⟩
 have hz0:Z m=R0:=by rw[hZ,e0,show m - a=A.length by omega];unfold shA;simp
 have hL:∀ k,(Z k).length=N:=fun k=>by rw[hZ,zGM];omega
 have hR0:R0.length=N:=by rw[←hz0,hL]
 have hu0:U a:=by rw[hU,Nat.sub_self];intro z hz;rw[List.take_zero] at hz;exact absurd hz (by simp)
 have hv0:V m:=by rw[hV];intro z hz;rw[List.drop_of_length_le (by omega)] at hz;exact absurd hz (by simp)
 have hbin:∀ h,a≤h→h<m→∃ z,R0[m]?=some y∧R0[h]?=some z∧(xP y.row z.row<0→V h)∧(¬ xP y.row z.row<0→U (h+1)):=fun h h1 h2=>by
  obtain⟨z,g1,g2,g3⟩:=zN6 (y:=y) hA (r:=h - a) (by omega)
  refine⟨z,?_,by rw[e0];exact zCY g1 (by omega),fun g=>?_,fun g=>?_⟩
  ·rw[e0,←List.append_assoc];exact cK (by rw[List.length_append];omega)
  ·rw[hV];exact g2 ((f9 _ _).1 g)
  ·rw[hU,show h+1 - a=h - a+1 by omega];exact g3 (fun k=>g ((f9 _ _).2 k))
 have hend:∀ i,U i→V i→Z i=R3:=fun i g1 g2=>by
  rw[hU] at g1
  rw[hV] at g2
  rw[hZ,e3,zQ4 g1 g2]
  unfold shA
  simp
 have hst:∀ k,a≤k→k<m→∃ z,(Z (k+1))[k]?=some z∧(Z (k+1))[k+1]?=some y∧Z k=((Z (k+1)).set (k+1) z).set k y:=fun k h1 h2=>by
  obtain⟨z,_,_,_,g1,g2,g3⟩:=zDH P y A S (p:=k - a) (by omega)
  rw[hZ,hZ,show k+1 - a=k - a+1 by omega]
  rw[show P.length+(k - a)=k by omega] at g1 g2 g3
  exact⟨z,g1,g2,g3⟩
 have ham:a+1<m:=by omega
 have hbN:b≤N:=by omega
 have hcmp:=zIW
 clear hZ hU hV e0 e3 hA ha hm hN hA0
 cbv
 refine⟨zD om om,?_⟩
 refine z3 om ?_
 cbv
 refine⟨zD om om,?_⟩
 refine xI om ?_
 cbv
 refine zY (σ:=Nat × Nat) (fun s=>⟨[(0,.osl 1000000 7 (fun _=>0) (fun _=>N)),(2,.int .i64 (fun _=>(m:Int))),(4,.fn 119 []),(14,.int .i64 (fun _=>(s.1:Int))),(15,.int .i64 (fun _=>(s.2:Int)))],[(1000000,.arr 7 (fun _=>enc mc R0))]⟩)
  (fun s=>a≤s.1∧s.1≤s.2∧s.2≤m∧U s.1∧V s.2) (fun s=>s.2 - s.1) (a,m) ⟨Nat.le_refl _,by simp only[];omega,Nat.le_refl _,hu0,hv0⟩ (.le ?_ ?_ rfl) ?_
 ·cbv;exact okA
 ·cbv;exact⟨zF rfl,trivial⟩
 clear hu0 hv0
 intro s hs
 obtain⟨f1,f2,f3,f4,f5⟩:=hs
 generalize s.1=i at *
 generalize s.2=j at *
 cbv
 refine zH (fun h5=>?_) (fun h5=>?_)
 ·have hij:i<j:=by (try dsimp only [zG] at *);omega
  obtain⟨h,hh⟩:∃ h,h=(i+j) / 2:=⟨_,rfl⟩
  have hi1:i≤h:=by omega
  have hi2:h<j:=by omega
  obtain⟨z,y1,y2,y3,y4⟩:=hbin h (by omega) (by omega)
  have hc:=hcmp y z
  clear hbin hst hend hz0 hL hcmp
  generalize xP y.row z.row=cr at *
  cbv
  refine⟨zD om om,wJ (by decide),?_⟩
  refine fZ 12 (.le (ps':=⟨[(0,.osl 1000000 7 (fun _=>0) (fun _=>N)),(2,.int .i64 (fun _=>(m:Int))),(4,.fn 119 []),(14,.int .i64 (fun _=>(i:Int))),(15,.int .i64 (fun _=>(j:Int))),(16,.int .i64 (fun _=>(h:Int)))],[(1000000,.arr 7 (fun _=>enc mc R0))]⟩) ?_ ?_ rfl) (by cbv) ?_
  ·cbv;exact⟨lR,lR,lR,lR,zC ((zIY i j (by omega)).trans (by rw[hh])),trivial⟩
  ·cbv;exact⟨zF rfl,trivial⟩
  cbv
  refine⟨yD om om,?_⟩
  cbv
  refine wY (l:=R0) m om (by omega) yS yO (fun t ht=>?_)
  obtain rfl:y=t:=by rw[y1] at ht;exact Option.some.inj ht
  cbv
  refine⟨yD om om,?_⟩
  cbv
  refine wY (l:=R0) h om (by omega) yS yO (fun t ht=>?_)
  obtain rfl:z=t:=by rw[y2] at ht;exact Option.some.inj ht
  cbv
  refine dA hc ?_
  cbv
  refine zH (fun h6=>?_) (fun h6=>?_)
  ·cbv
   refine⟨(i,h),⟨by simp only[];omega,by simp only[];omega,by simp only[];omega,f4,y3 h6⟩,by simp only[];omega,.le ?_ ?_ rfl⟩
   ·cbv;exact okA
   ·cbv;exact⟨zF rfl,trivial⟩
  ·cbv
   refine⟨zD om om,(h+1,j),⟨by simp only[];omega,by simp only[];omega,by simp only[];omega,y4 h6,f5⟩,by simp only[];omega,.le ?_ ?_ rfl⟩
   ·cbv;exact⟨lR,lR,zC om,lR,trivial⟩
   ·cbv;exact⟨zF rfl,trivial⟩
 ·obtain rfl:i=j:=by (try dsimp only [zG] at *);omega
  have hZe:=hend i f4 f5
  clear hbin hend hcmp
  cbv
  refine zY (σ:=Nat) (fun k=>⟨[(0,.osl 1000000 7 (fun _=>0) (fun _=>N)),(14,.int .i64 (fun _=>(i:Int))),(17,.int .i64 (fun _=>(k:Int)))],[(1000000,.arr 7 (fun _=>enc mc (Z k)))]⟩)
   (fun k=>i≤k∧k≤m) (fun k=>k - i) m ⟨f3,Nat.le_refl _⟩ (.le ?_ ?_ rfl) ?_
  ·cbv;exact okA
  ·cbv;exact⟨zF (by rw[hz0]),trivial⟩
  intro k' hk
  obtain⟨k1,k2⟩:=hk
  cbv
  refine zH (fun h6=>?_) (fun h6=>?_)
  ·obtain⟨k,rfl⟩:∃ k,k'=k+1:=⟨k' - 1,by (try dsimp only [zG] at *);omega⟩
   have hk3:i≤k:=by (try dsimp only [zG] at *);omega
   obtain⟨z,hx,hy,hs⟩:=hst k (by omega) (by omega)
   have hLi:=hL (k+1)
   clear hst hL hZe hz0
   generalize Z (k+1)=arr at *
   cbv
   refine l8 17 15 (by cbv) (by cbv) ?_
   cbv
   refine⟨zD om om,zD om om,yD om om,?_⟩
   cbv
   refine wY (l:=arr) k om (by omega) yS yO (fun t ht=>?_)
   obtain rfl:z=t:=by rw[hx] at ht;exact Option.some.inj ht
   cbv
   refine⟨yD om om,?_⟩
   cbv
   refine wY (l:=arr) (k+1) om (by omega) yS yO (fun t ht=>?_)
   obtain rfl:y=t:=by rw[hy] at ht;exact Option.some.inj ht
   cbv
   refine⟨yD om om,?_⟩
   cbv
   refine wY (l:=arr) (k+1) om (by omega) yS yO (fun t0 ht0=>?_)
   cbv
   refine⟨yD om om,l7 (p:=mc) (arr.set (k+1) z) ?_ k om (by rw[List.length_set];omega) yS yO (fun t1 ht1=>?_)⟩
   ·show (enc mc arr).set (0+((k+1:Nat):Int).toNat) (yW (mc z))=_
    rw[w5]
    congr 2
    omega
   cbv
   refine⟨zD om om,k,⟨om,om⟩,om,.le ?_ ?_ rfl⟩
   ·cbv;exact⟨lR,lR,zC om,trivial⟩
   ·cbv
    refine⟨zF ?_,trivial⟩
    show ((enc mc arr).set (0+((k+1:Nat):Int).toNat) (yW (mc z))).set (0+(((k+1:Nat):Int) - 1).toNat) (yW (mc y))=_
    rw[w5,w5,show 0+((k+1:Nat):Int).toNat=k+1 by omega,show 0+(((k+1:Nat):Int) - 1).toNat=k by omega,hs]
  ·obtain rfl:k'=i:=by (try dsimp only [zG] at *);omega
   cbv
   refine u9 (.le (ps':=⟨[],[(1000000,.arr 7 (fun _=>enc mc R3))]⟩) ?_ ?_ rfl) rfl trivial rfl rfl rfl rfl
   ·trivial
   ·cbv
    exact⟨zF (by rw[hZe]),trivial⟩
theorem zR6 (n:Nat)(ih:∀ (P A B S R0 R3:List Mult) (a m b N:Nat),A.length+B.length≤n→0<A.length→0<B.length→Srt A→Srt B→a=P.length→m=a+A.length→b=m+B.length→N=b+S.length→N<2^38→R0=P++(A++(B++S))→R3=P++(mrgM A B++S)→Sound 205 [.osl 1000000 7 (fun _=>0) (fun _=>N),.int .i64 (fun _=>(a:Int)),.int .i64 (fun _=>(m:Int)),.int .i64 (fun _=>(b:Int)),.fn 119 []] (mao 1000000 R0) [] (.tup []) (mao 1000000 R3) [])
  (P A B S R0 R3:List Mult) (a m b N:Nat) (hn:A.length+B.length≤n+1) (hA0:1<A.length) (hB0:1<B.length) (hA:Srt A) (hB:Srt B) (ha:a=P.length) (hm:m=a+A.length) (hb:b=m+B.length) (hN:N=b+S.length) (hl:N<2^38)
  (e0:R0=P++(A++(B++S))) (e3:R3=P++(mrgM A B++S)):Sound 205 [.osl 1000000 7 (fun _=>0) (fun _=>N),.int .i64 (fun _=>(a:Int)),.int .i64 (fun _=>(m:Int)),.int .i64 (fun _=>(b:Int)),.fn 119 []] (mao 1000000 R0) [] (.tup []) (mao 1000000 R3) []:=by
 refine uM zMH rfl rfl rfl rfl rfl ?_
 obtain⟨d,hd⟩:∃ d,d=(a+b) / 2:=⟨_,rfl⟩
 obtain⟨U,hU⟩:∃ U:Nat→Prop,∀ i,U i=syU A B a d i:=⟨_,fun _=>rfl⟩
 obtain⟨V,hV⟩:∃ V:Nat→Prop,∀ i,V i=syV A B a d i:=⟨_,fun _=>rfl⟩
 have hR0:R0.length=N:=by rw[e0];simp only[List.length_append];omega
 have hlo:∀ c,(c=a∨d+m=b+c)→U c:=fun c h=>by rw[hU];exact zR4 (by omega)
 have hhi:∀ c,(c=d∨c=m)→V c:=fun c h=>by rw[hV];exact zR5 (by omega)
 have hbin:∀ c,a≤c→c<m→c<d→d+m≤b+c→∃ x y,R0[c]?=some x∧R0[d+m - 1 - c]?=some y∧(xP y.row x.row<0→V c)∧(¬ xP y.row x.row<0→U (c+1)):=fun c h1 h2 h3 h4=>by
  obtain⟨x,y,g1,g2,g3,g4⟩:=zM3 hA hB (a:=a) (mid:=d) (c:=c) h1 (by omega) h3 (by omega)
  refine⟨x,y,by rw[e0];exact zCY g1 (by omega),?_,fun g=>?_,fun g=>?_⟩
  ·rw[e0,←List.append_assoc];exact zCY g2 (by rw[List.length_append];omega)
  ·rw[hV];exact g3 ((f9 _ _).1 g)
  ·rw[hU];exact g4 (fun k=>g ((f9 _ _).2 k))
 have hq:∀ u,a≤u→u≤m→u≤d→d+m≤b+u→U u→V u→∃ R1 R2,(u<m→m<d+m - u→Sound 219 [.osl 1000000 7 (fun _=>0) (fun _=>N),.int .i64 (fun _=>(u:Int)),.int .i64 (fun _=>(m:Int)),.int .i64 (fun _=>((d+m - u:Nat):Int)),.fn 119 []] (mao 1000000 R0) [] (.tup []) (mao 1000000 R1) [])∧(¬ (u<m∧m<d+m - u)→R0=R1) ∧
   (a<u→u<d→Sound 205 [.osl 1000000 7 (fun _=>0) (fun _=>N),.int .i64 (fun _=>(a:Int)),.int .i64 (fun _=>(u:Int)),.int .i64 (fun _=>(d:Int)),.fn 119 []] (mao 1000000 R1) [] (.tup []) (mao 1000000 R2) [])∧(¬ (a<u∧u<d)→R1=R2)∧(d<d+m - u→d+m - u<b→Sound 205 [.osl 1000000 7 (fun _=>0) (fun _=>N),.int .i64 (fun _=>(d:Int)),.int .i64 (fun _=>((d+m - u:Nat):Int)),.int .i64 (fun _=>(b:Int)),.fn 119 []] (mao 1000000 R2) [] (.tup []) (mao 1000000 R3) [])∧(¬ (d<d+m - u∧d+m - u<b)→R2=R3):=fun u h1 h2 h3 h4 g1 g2=>by
  rw[hU] at g1
  rw[hV] at g2
  rw[zP9 g1 g2] at e3
  clear g1 g2 hbin hlo hhi hU hV
  have eA:=(List.take_append_drop (u - a) A).symm
  have eB:=(List.take_append_drop (d - u) B).symm
  have l1:(A.take (u - a)).length=u - a:=by rw[List.length_take];omega
  have l2:(A.drop (u - a)).length=m - u:=by rw[List.length_drop];omega
  have l3:(B.take (d - u)).length=d - u:=by rw[List.length_take];omega
  have l4:(B.drop (d - u)).length=b - (d+m - u):=by rw[List.length_drop];omega
  generalize A.take (u - a)=A1 at *
  generalize A.drop (u - a)=A2 at *
  generalize B.take (d - u)=B1 at *
  generalize B.drop (d - u)=B2 at *
  have s1:Srt A1:=(eA ▸ hA).left
  have s2:Srt A2:=(eA ▸ hA).right
  have s3:Srt B1:=(eB ▸ hB).left
  have s4:Srt B2:=(eB ▸ hB).right
  have z:∀ (l:List Mult),¬ 0<l.length→l=[]:=fun l h=>List.eq_nil_of_length_eq_zero (by omega)
  refine⟨P++(A1++(B1++(A2++(B2++S)))),P++(mrgM A1 B1++(A2++(B2++S))),fun p q=>?_,fun p=>?_,fun p q=>?_,fun p=>?_,fun p q=>?_,fun p=>?_⟩
  ·exact sRot (P++A1) A2 B1 (B2++S) _ _ u m (d+m - u) N (by omega) (by omega) (by rw[List.length_append];omega) (by omega) (by omega) (by rw[List.length_append];omega) hl (by rw[e0,eA,eB];simp) (by simp)
  ·by_cases k:0<A2.length
   ·have:B1=[]:=z _ (by omega)
    rw[e0,eA,eB,this];simp
   ·rw[e0,eA,eB,z _ k];simp
  ·exact ih P A1 B1 (A2++(B2++S)) _ _ a u d N (by omega) (by omega) (by omega) s1 s3 ha (by omega) (by omega) (by simp only[List.length_append];omega) hl (by simp) rfl
  ·by_cases k:0<A1.length
   ·have:B1=[]:=z _ (by omega)
    rw[this,xU];simp
   ·rw[z _ k,wX];simp
  ·exact ih (P++mrgM A1 B1) A2 B2 S _ _ d (d+m - u) b N (by omega) (by omega) (by omega) s2 s4 (by rw[List.length_append,eL];omega) (by omega) (by omega) hN hl (by simp) (by rw[e3];simp)
  ·by_cases k:0<A2.length
   ·have:B2=[]:=z _ (by omega)
    rw[e3,this,xU];simp
   ·rw[e3,z _ k,wX];simp
 have ham:a+1<m:=by omega
 have hmb:m+1<b:=by omega
 have hbN:b≤N:=by omega
 have hcmp:=zIW
 clear hU hV e0 e3 hA hB ha hm hb hN hA0 hB0 hn ih
 have hmid:=zIY a b (by omega)
 cbv
 refine⟨zD om om,?_⟩
 refine z3 om ?_
 cbv
 refine⟨zD om om,?_⟩
 refine z3 om ?_
 cbv
 refine⟨zD om om,wJ (by decide),zD om om,?_⟩
 refine j9 (σ:=Nat × Nat) (fun s=>⟨[(0,.osl 1000000 7 (fun _=>0) (fun _=>N)),(1,.int .i64 (fun _=>(a:Int))),(2,.int .i64 (fun _=>(m:Int))),(3,.int .i64 (fun _=>(b:Int))),(4,.fn 119 []),(18,.int .i64 (fun _=>(d:Int))),(19,.int .i64 (fun _=>((d+m:Nat):Int))),(20,.int .i64 (fun _=>(s.1:Int))),(21,.int .i64 (fun _=>(s.2:Int)))],[(1000000,.arr 7 (fun _=>enc mc R0))]⟩)
  (fun s=>a≤s.1∧s.1≤s.2∧s.2≤m∧s.2≤d∧d+m≤b+s.1∧U s.1∧V s.2) (fun h=>?_) (fun h=>?_) ?_
 ·have hdm:d<m:=by rw[hd];(try dsimp only [zG] at *);omega
  have hu:=hlo (d+m - b) (by omega)
  have hv:=hhi d (.inl rfl)
  clear hbin hq hlo hhi hcmp
  cbv
  refine⟨zD om om,(d+m - b,d),⟨by simp only[];omega,by simp only[];omega,by simp only[];omega,Nat.le_refl _,by simp only[];omega,hu,hv⟩,.le ?_ ?_ rfl⟩
  ·cbv;exact⟨lR,lR,lR,lR,zC om,zC om,zC om,zC om,trivial⟩
  ·cbv;exact⟨zF rfl,trivial⟩
 ·have hdm:m≤d:=by rw[hd];(try dsimp only [zG] at *);omega
  have hu:=hlo a (.inl rfl)
  have hv:=hhi m (.inr rfl)
  clear hbin hq hlo hhi hcmp
  cbv
  refine⟨(a,m),⟨Nat.le_refl _,by simp only[];omega,Nat.le_refl _,by simp only[];omega,by simp only[];omega,hu,hv⟩,.le ?_ ?_ rfl⟩
  ·cbv;exact⟨lR,lR,lR,lR,zC om,zC om,lR,lR,trivial⟩
  ·cbv;exact⟨zF rfl,trivial⟩
 clear hlo hhi hmid
 intro s hs
 obtain⟨f1,f2,f3,f4,f5,f6,f7⟩:=hs
 generalize s.1=lo at *
 generalize s.2=hi at *
 cbv
 refine⟨zD om om,?_⟩
 refine zY (σ:=Nat × Nat) (fun s=>⟨[(0,.osl 1000000 7 (fun _=>0) (fun _=>N)),(1,.int .i64 (fun _=>(a:Int))),(2,.int .i64 (fun _=>(m:Int))),(3,.int .i64 (fun _=>(b:Int))),(4,.fn 119 []),(18,.int .i64 (fun _=>(d:Int))),(19,.int .i64 (fun _=>((d+m:Nat):Int))),(20,.int .i64 (fun _=>(s.1:Int))),(21,.int .i64 (fun _=>(s.2:Int))),(22,.int .i64 (fun _=>((d+m - 1:Nat):Int)))],[(1000000,.arr 7 (fun _=>enc mc R0))]⟩)
  (fun s=>lo≤s.1∧s.1≤s.2∧s.2≤hi∧U s.1∧V s.2) (fun s=>s.2 - s.1) (lo,hi) ⟨Nat.le_refl _,f2,Nat.le_refl _,f6,f7⟩ (.le ?_ ?_ rfl) ?_
 ·cbv;exact⟨lR,lR,lR,lR,lR,lR,lR,lR,zC om,trivial⟩
 ·cbv;exact⟨zF rfl,trivial⟩
 clear f6 f7
 intro s hs
 obtain⟨p1,p2,p3,p4,p5⟩:=hs
 generalize s.1=i at *
 generalize s.2=j at *
 cbv
 refine zH (fun h5=>?_) (fun h5=>?_)
 ·have hij:i<j:=by (try dsimp only [zG] at *);omega
  obtain⟨h,hh⟩:∃ h,h=(i+j) / 2:=⟨_,rfl⟩
  have hi1:i≤h:=by omega
  have hi2:h<j:=by omega
  obtain⟨x,y,y1,y2,y3,y4⟩:=hbin h (by omega) (by omega) (by omega) (by omega)
  have hc:=hcmp y x
  clear hbin hq hcmp
  generalize xP y.row x.row=cr at *
  cbv
  refine⟨zD om om,wJ (by decide),?_⟩
  refine fZ 14 (.le (ps':=⟨[(0,.osl 1000000 7 (fun _=>0) (fun _=>N)),(1,.int .i64 (fun _=>(a:Int))),(2,.int .i64 (fun _=>(m:Int))),(3,.int .i64 (fun _=>(b:Int))),(4,.fn 119 []),(18,.int .i64 (fun _=>(d:Int))),(19,.int .i64 (fun _=>((d+m:Nat):Int))),(20,.int .i64 (fun _=>(i:Int))),(21,.int .i64 (fun _=>(j:Int))),(22,.int .i64 (fun _=>((d+m - 1:Nat):Int))),(23,.int .i64 (fun _=>(h:Int)))],[(1000000,.arr 7 (fun _=>enc mc R0))]⟩) ?_ ?_ rfl) (by cbv) ?_
  ·cbv;exact⟨lR,lR,lR,lR,lR,lR,lR,lR,lR,zC ((zIY i j (by omega)).trans (by rw[hh])),trivial⟩
  ·cbv;exact⟨zF rfl,trivial⟩
  cbv
  refine⟨zD om om,yD om om,?_⟩
  cbv
  refine wY (l:=R0) (d+m - 1 - h) om (by omega) yS yO (fun t ht=>?_)
  obtain rfl:y=t:=by rw[y2] at ht;exact Option.some.inj ht
  cbv
  refine⟨yD om om,?_⟩
  cbv
  refine wY (l:=R0) h om (by omega) yS yO (fun t ht=>?_)
  obtain rfl:x=t:=by rw[y1] at ht;exact Option.some.inj ht
  cbv
  refine dA hc ?_
  cbv
  refine zH (fun h6=>?_) (fun h6=>?_)
  ·cbv
   refine⟨(i,h),⟨by simp only[];omega,by simp only[];omega,by simp only[];omega,p4,y3 h6⟩,by simp only[];omega,.le ?_ ?_ rfl⟩
   ·cbv;exact okA
   ·cbv;exact⟨zF rfl,trivial⟩
  ·cbv
   refine⟨zD om om,(h+1,j),⟨by simp only[];omega,by simp only[];omega,by simp only[];omega,y4 h6,p5⟩,by simp only[];omega,.le ?_ ?_ rfl⟩
   ·cbv;exact⟨lR,lR,lR,lR,lR,lR,zC om,lR,lR,trivial⟩
   ·cbv;exact⟨zF rfl,trivial⟩
 obtain rfl:i=j:=by (try dsimp only [zG] at *);omega
 obtain⟨R1,R2,q1,q1',q2,q2',q3,q3'⟩:=hq i (by omega) (by omega) (by omega) (by omega) p4 p5
 clear hbin hq hcmp p4 p5 h5
 cbv
 refine⟨zD om om,?_⟩
 refine zR (fun e1=>?_) (fun e1=>?_)
 ·have e1':i<m:=by (try dsimp only [zG] at *);omega
  cbv
  refine zH (fun e2=>?_) (fun e2=>?_)
  ·have e2':m<d+m - i:=by (try dsimp only [zG] at *);omega
   cbv
   refine y8 (fun n=>n) (Wk.sel _ [0,1,3,4,18,20,24,186,187,188,189,190] [1000000] rfl) rfl (by exact⟨lR,lR,lR,zC om,⟨rfl,trivial⟩,trivial⟩) (q1 (by omega) (by omega)) ⟨⟨rfl,rfl⟩,trivial⟩ rfl rfl rfl rfl rfl rfl rfl rfl ?_
   cbv
   refine zR (fun e3=>?_) (fun e3=>?_)
   ·have e3':a<i:=by (try dsimp only [zG] at *);omega
    cbv
    refine xI om ?_
    cbv
    refine y8 (fun n=>n) (Wk.sel _ [0,3,4,18,24,200,201,202,203,204] [1000000] rfl) rfl (by exact⟨lR,lR,lR,lR,⟨rfl,trivial⟩,trivial⟩) (q2 (by omega) (by omega)) ⟨⟨rfl,rfl⟩,trivial⟩ rfl rfl rfl rfl rfl rfl rfl rfl ?_
    cbv
    refine xR om ?_
    cbv
    refine zH (fun g2=>?_) (fun g2=>?_)
    ·have g2':d+m - i<b:=by (try dsimp only [zG] at *);omega
     cbv
     refine y8 (fun n=>n) (Wk.sel _ [214,215,216,217,218] [1000000] rfl) rfl (by exact⟨lR,lR,zC om,lR,⟨rfl,trivial⟩,trivial⟩) (q3 (by omega) (by omega)) ⟨⟨rfl,rfl⟩,trivial⟩ rfl rfl rfl rfl rfl rfl rfl rfl ?_
     cbv
     refine u9 (.le (ps':=⟨[],[(1000000,.arr 7 (fun _=>enc mc R3))]⟩) ?_ ?_ rfl) rfl trivial rfl rfl rfl rfl
     ·trivial
     ·cbv
      exact⟨zF (by first | rfl | rw[hz]),trivial⟩
    ·have g2':¬ d+m - i<b:=by (try dsimp only [zG] at *);omega
     have hz:=q3' (by omega)
     cbv
     refine u9 (.le (ps':=⟨[],[(1000000,.arr 7 (fun _=>enc mc R3))]⟩) ?_ ?_ rfl) rfl trivial rfl rfl rfl rfl
     ·trivial
     ·cbv
      exact⟨zF (by first | rfl | rw[hz]),trivial⟩
   ·have e3':¬ a<i:=by (try dsimp only [zG] at *);omega
    obtain rfl:=q2' (by omega)
    cbv
    refine xR om ?_
    cbv
    refine zH (fun g2=>?_) (fun g2=>?_)
    ·have g2':d+m - i<b:=by (try dsimp only [zG] at *);omega
     cbv
     refine y8 (fun n=>n) (Wk.sel _ [214,215,216,217,218] [1000000] rfl) rfl (by exact⟨lR,lR,zC om,lR,⟨rfl,trivial⟩,trivial⟩) (q3 (by omega) (by omega)) ⟨⟨rfl,rfl⟩,trivial⟩ rfl rfl rfl rfl rfl rfl rfl rfl ?_
     cbv
     refine u9 (.le (ps':=⟨[],[(1000000,.arr 7 (fun _=>enc mc R3))]⟩) ?_ ?_ rfl) rfl trivial rfl rfl rfl rfl
     ·trivial
     ·cbv
      exact⟨zF (by first | rfl | rw[hz]),trivial⟩
    ·have g2':¬ d+m - i<b:=by (try dsimp only [zG] at *);omega
     have hz:=q3' (by omega)
     cbv
     refine u9 (.le (ps':=⟨[],[(1000000,.arr 7 (fun _=>enc mc R3))]⟩) ?_ ?_ rfl) rfl trivial rfl rfl rfl rfl
     ·trivial
     ·cbv
      exact⟨zF (by first | rfl | rw[hz]),trivial⟩
  ·have e2':¬ m<d+m - i:=by (try dsimp only [zG] at *);omega
   obtain rfl:=q1' (by omega)
   obtain rfl:=q2' (by omega)
   cbv
   refine xR om ?_
   cbv
   refine z3 om ?_
   cbv
   refine xR om ?_
   cbv
   refine xI om ?_
   cbv
   refine y8 (fun n=>n) (Wk.sel _ [214,215,216,217,218] [1000000] rfl) rfl (by exact⟨lR,lR,zC om,lR,⟨rfl,trivial⟩,trivial⟩) (q3 (by omega) (by omega)) ⟨⟨rfl,rfl⟩,trivial⟩ rfl rfl rfl rfl rfl rfl rfl rfl ?_
   cbv
   refine u9 (.le (ps':=⟨[],[(1000000,.arr 7 (fun _=>enc mc R3))]⟩) ?_ ?_ rfl) rfl trivial rfl rfl rfl rfl
   ·trivial
   ·cbv
    exact⟨zF (by first | rfl | rw[hz]),trivial⟩
 ·have e1':¬ i<m:=by (try dsimp only [zG] at *);omega
  obtain rfl:=q1' (by omega)
  cbv
  refine xR om ?_
  cbv
  refine zH (fun e3=>?_) (fun e3=>?_)
  ·have e3':i<d:=by (try dsimp only [zG] at *);omega
   cbv
   refine y8 (fun n=>n) (Wk.sel _ [0,3,4,18,24,200,201,202,203,204] [1000000] rfl) rfl (by exact⟨lR,lR,lR,lR,⟨rfl,trivial⟩,trivial⟩) (q2 (by omega) (by omega)) ⟨⟨rfl,rfl⟩,trivial⟩ rfl rfl rfl rfl rfl rfl rfl rfl ?_
   cbv
   refine zW om ?_
   have hz:=q3' (by omega)
   cbv
   refine u9 (.le (ps':=⟨[],[(1000000,.arr 7 (fun _=>enc mc R3))]⟩) ?_ ?_ rfl) rfl trivial rfl rfl rfl rfl
   ·trivial
   ·cbv
    exact⟨zF (by first | rfl | rw[hz]),trivial⟩
  ·have e3':¬ i<d:=by (try dsimp only [zG] at *);omega
   obtain rfl:=q2' (by omega)
   cbv
   refine zW om ?_
   have hz:=q3' (by omega)
   cbv
   refine u9 (.le (ps':=⟨[],[(1000000,.arr 7 (fun _=>enc mc R3))]⟩) ?_ ?_ rfl) rfl trivial rfl rfl rfl rfl
   ·trivial
   ·cbv
    exact⟨zF (by first | rfl | rw[hz]),trivial⟩
theorem sSym:∀ (n:Nat) (P A B S R0 R3:List Mult) (a m b N:Nat),A.length+B.length≤n→0<A.length→0<B.length→Srt A→Srt B→a=P.length→m=a+A.length→b=m+B.length→N=b+S.length→N<2^38→R0=P++(A++(B++S))→R3=P++(mrgM A B++S)→Sound 205 [.osl 1000000 7 (fun _=>0) (fun _=>N),.int .i64 (fun _=>(a:Int)),.int .i64 (fun _=>(m:Int)),.int .i64 (fun _=>(b:Int)),.fn 119 []] (mao 1000000 R0) [] (.tup []) (mao 1000000 R3) []:=by
 intro n
 induction n with
 | zero=>intro P A B S R0 R3 a m b N hn hA0 hB0;omega
 | succ n ih =>
  intro P A B S R0 R3 a m b N hn hA0 hB0 hA hB ha hm hb hN hl e0 e3
  by_cases h1:A.length=1
  ·obtain⟨x,rfl⟩:=List.length_eq_one_iff.1 h1
   exact zR8 x P B S R0 R3 a m b N hB0 hB ha hm hb hN hl e0 e3
  by_cases h2:B.length=1
  ·obtain⟨y,rfl⟩:=List.length_eq_one_iff.1 h2
   exact zR7 y P A S R0 R3 a m b N (by omega) hA ha hm hb hN hl e0 e3
  exact zR6 n ih P A B S R0 R3 a m b N hn (by omega) (by omega) hA hB ha hm hb hN hl e0 e3
def inZ (P l S:List Mult) (i:Nat):List Mult:=P++((isr (l.take i)).reverse++(l.drop i++S))
theorem zN3 (P l S:List Mult):inZ P l S 1=P++(l++S):=by
 unfold inZ
 cases l with
 | nil=>rfl
 | cons x r=>rfl
theorem zN4 (P l S:List Mult):inZ P l S l.length=P++(stS l++S):=by
 unfold inZ stS
 rw[List.take_length,List.drop_length,List.nil_append]
def inI (P l S:List Mult) (i j:Nat) (arr:List Mult):Prop :=
 ∃ pr qr x,j=P.length+pr.length∧arr=P++(pr.reverse++x::(qr.reverse++(l.drop (i+1)++S)))∧isr (l.take (i+1))=qr++j5 x pr∧pr.length+qr.length=i∧i<l.length
theorem zN2 (P l S:List Mult){i:Nat}(hi:i<l.length):inI P l S i (P.length+i) (inZ P l S i):=by
 obtain⟨x,hx⟩:=sX hi
 have d:l.drop i=x::l.drop (i+1):=by
  obtain⟨h1,h2⟩:=List.getElem?_eq_some_iff.1 hx
  rw[List.drop_eq_getElem_cons h1,h2]
 have t:l.take (i+1)=l.take i++[x]:=by rw[List.take_add_one,hx];rfl
 have lt:(l.take i).length=i:=by rw[List.length_take];omega
 refine⟨isr (l.take i),[],x,by rw[lZ,lt],?_,by rw[t,zD0];rfl,by rw[lZ,lt];rfl,hi⟩
 unfold inZ
 rw[d]
 simp
theorem zQ2 {P l S arr:List Mult}{i j:Nat}(h:inI P l S i j arr):arr.length=P.length+l.length+S.length∧P.length≤j∧j<arr.length:=by
 obtain⟨pr,qr,x,rfl,rfl,h3,h4,h5⟩:=h
 simp only[List.length_append,List.length_reverse,List.length_cons,List.length_drop]
 omega
theorem zQ3 {P l S arr:List Mult}{i:Nat}(h:inI P l S i P.length arr):arr=inZ P l S (i+1):=by
 obtain⟨pr,qr,x,h1,rfl,h3,h4,h5⟩:=h
 obtain rfl:pr=[]:=List.eq_nil_of_length_eq_zero (by omega)
 unfold inZ
 rw[h3]
 simp [j5]
theorem zN1 {P l S arr:List Mult}{i j:Nat}(h:inI P l S i (j+1) arr)(hj:P.length≤j):∃ x y,arr[j+1]?=some x∧arr[j]?=some y∧(xP x.row y.row<0→inI P l S i j ((arr.set (j+1) y).set j x))∧(¬ xP x.row y.row<0→arr=inZ P l S (i+1)):=by
 obtain⟨pr,qr,x,h1,rfl,h3,h4,h5⟩:=h
 cases pr with
 | nil=>rw[List.length_nil] at h1;omega
 | cons y pr =>
  rw[List.length_cons] at h1 h4
  have hins:j5 x (y::pr)=if xP x.row y.row<0 then y::j5 x pr else x::y::pr:=rfl
  have e:P++((y::pr).reverse++x::(qr.reverse++(l.drop (i+1)++S)))=(P++pr.reverse)++y::(x::(qr.reverse++(l.drop (i+1)++S))):=by simp
  have e2:∀ z,(P++pr.reverse)++z::(x::(qr.reverse++(l.drop (i+1)++S)))=(P++pr.reverse++[z])++x::(qr.reverse++(l.drop (i+1)++S)):=fun z=>by simp
  have l1:j=(P++pr.reverse).length:=by rw[List.length_append,List.length_reverse];omega
  have l2:∀ z,j+1=(P++pr.reverse++[z]).length:=fun z=>by rw[List.length_append,←l1];rfl
  refine⟨x,y,?_,?_,fun g=>?_,fun g=>?_⟩
  ·rw[e,e2];exact cK (l2 y)
  ·rw[e];exact cK l1
  ·rw[hins,if_pos g] at h3
   refine⟨pr,qr++[y],x,by rw[l1,List.length_append,List.length_reverse],?_,by rw[h3];simp,by simp only[List.length_append,List.length_cons,List.length_nil];omega,h5⟩
   rw[e,e2,dJ (l2 y) y]
   rw[show (P++pr.reverse++[y])++y::(qr.reverse++(l.drop (i+1)++S))=(P++pr.reverse)++y::(y::(qr.reverse++(l.drop (i+1)++S))) by simp,dJ l1 x]
   simp
  ·rw[hins,if_neg g] at h3
   unfold inZ
   rw[h3]
   simp
end Go.Proofs.YtgcpehdkdnkgeaaGreat
