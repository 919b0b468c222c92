/- A part of the proof: SoD, SqF, LxH. -/
import Derived.Test.YtgcpehdkdnkgeaaGreatV41
import Derived.Test.YtgcpehdkdnkgeaaGreatV39
set_option linter.all false
namespace Go.Proofs.YtgcpehdkdnkgeaaGreat
open Go
set_option maxRecDepth 100000
set_option maxHeartbeats 4000000
theorem zSH (P l S R0 R1:List Mult)(a b N:Nat)(ha:a=P.length)(hb:b=a+l.length)(hN:N=b+S.length)(hl:N<2^38)(e0:R0=P++(l++S))(e1:R1=P++(stS l++S)) :
  Sound 204 [.osl 1000000 7 (fun _=>0) (fun _=>N),.int .i64 (fun _=>(a:Int)),.int .i64 (fun _=>(b:Int)),.fn 119 []] (mao 1000000 R0) [] (.tup []) (mao 1000000 R1) []:=by
 refine uM zSW rfl rfl rfl rfl rfl ?_
 obtain⟨Z,hZ⟩:∃ Z:Nat→List Mult,∀ i,Z i=inZ P l S (i - a):=⟨_,fun _=>rfl⟩
 obtain⟨I,hI⟩:∃ I:Nat→Nat→List Mult→Prop,∀ i j r,I i j r=inI P l S (i - a) j r:=⟨_,fun _ _ _=>rfl⟩
 have hZ1:Z (a+1)=R0:=by rw[hZ,show a+1 - a=1 by omega,zN3,e0]
 have hZb:Z b=R1:=by rw[hZ,show b - a=l.length by omega,zN4,e1]
 have hZ0:b≤a→R0=R1:=fun h=>by
  obtain rfl:l=[]:=List.eq_nil_of_length_eq_zero (by omega)
  rw[e0,e1,lO]
 have hinit:∀ i,a≤i→i<b→I i i (Z i):=fun i h1 h2=>by
  have:=zN2 P l S (i:=i - a) (by omega)
  rw[←ha,show a+(i - a)=i by omega] at this
  rw[hI,hZ]
  exact this
 have hlen:∀ i j r,I i j r→r.length=N∧a≤j∧j<N:=fun i j r h=>by
  rw[hI] at h
  have:=zQ2 h
  omega
 have hfst:∀ i r,a≤i→I i a r→r=Z (i+1):=fun i r h1 h=>by
  rw[hI,ha] at h
  rw[hZ,zQ3 h,←ha,show i+1 - a=i - a+1 by omega]
 have hstep:∀ i j r,a≤i→a≤j→I i (j+1) r→∃ x y,r[j+1]?=some x∧r[j]?=some y∧(xP x.row y.row<0→I i j ((r.set (j+1) y).set j x))∧(¬ xP x.row y.row<0→r=Z (i+1)):=fun i j r h1 h2 h=>by
  rw[hI] at h
  obtain⟨x,y,g1,g2,g3,g4⟩:=zN1 h (by omega)
  exact⟨x,y,g1,g2,fun g=>by rw[hI];exact g3 g,fun g=>by rw[hZ,g4 g,show i+1 - a=i - a+1 by omega]⟩
 have hab:a≤b:=by omega
 have hbN:b≤N:=by omega
 have hcmp:=zIW
 clear hZ hI ha hb hN e0 e1
 cbv
 refine⟨zD om om,?_⟩
 refine zY (σ:=Nat) (fun i=>⟨[(0,.osl 1000000 7 (fun _=>0) (fun _=>N)),(1,.int .i64 (fun _=>(a:Int))),(2,.int .i64 (fun _=>(b:Int))),(3,.fn 119 []),(8,.int .i64 (fun _=>(i:Int)))],[(1000000,.arr 7 (fun _=>enc mc (Z i)))]⟩)
  (fun i=>a+1≤i∧(i≤b∨b≤a∧i=a+1)) (fun i=>b - i) (a+1) ⟨Nat.le_refl _,by omega⟩ (.le ?_ ?_ rfl) ?_
 ·cbv
  exact⟨lR,lR,lR,zC om,trivial⟩
 ·cbv
  exact⟨zF (by rw[hZ1]),trivial⟩
 intro i hi
 obtain⟨hi1,hi2⟩:=hi
 cbv
 refine zH (fun h5=>?_) (fun h5=>?_)
 ·have hlt:i<b:=by (try dsimp only [zG] at *);omega
  have hin:=hinit i (by omega) hlt
  have hfs:∀ r,I i a r→r=Z (i+1):=fun r=>hfst i r (by omega)
  have hst:∀ j r,a≤j→I i (j+1) r→∃ x y,r[j+1]?=some x∧r[j]?=some y∧(xP x.row y.row<0→I i j ((r.set (j+1) y).set j x))∧(¬ xP x.row y.row<0→r=Z (i+1)):=fun j r=>hstep i j r (by omega)
  have hle:∀ j r,I i j r→r.length=N∧a≤j∧j<N:=fun j r=>hlen i j r
  clear hinit hfst hstep hlen hZ1 hZb hZ0
  generalize I i=J at *
  generalize Z i=Zi at *
  cbv
  refine zY (σ:=Nat × List Mult) (fun s=>⟨[(0,.osl 1000000 7 (fun _=>0) (fun _=>N)),(1,.int .i64 (fun _=>(a:Int))),(2,.int .i64 (fun _=>(b:Int))),(3,.fn 119 []),(8,.int .i64 (fun _=>(i:Int))),(9,.int .i64 (fun _=>(s.1:Int)))],[(1000000,.arr 7 (fun _=>enc mc s.2))]⟩)
   (fun s=>J s.1 s.2) (fun s=>s.1) (i,Zi) hin (.le ?_ ?_ rfl) ?_
  ·cbv
   exact okA
  ·cbv
   exact⟨zF rfl,trivial⟩
  intro s hs
  generalize s.2=arr at *
  generalize s.1=j' at *
  obtain⟨hla,hja,hjN⟩:=hle j' arr hs
  by_cases hj0:j'=a
  ·have hr:=hfs arr (by rw[←hj0];exact hs)
   clear hst hle hfs hs
   cbv
   refine zO 17 (by cbv) ?_
   cbv
   refine zW om ?_
   cbv
   refine⟨zD om om,i+1,⟨om,om⟩,om,.le ?_ ?_ rfl⟩
   ·cbv
    exact⟨lR,lR,lR,zC om,trivial⟩
   ·cbv
    exact⟨zF (by rw[hr]),trivial⟩
  ·obtain⟨j,rfl⟩:∃ j,j'=j+1:=⟨j' - 1,by omega⟩
   obtain⟨x,y,hx,hy,hlt1,hge⟩:=hst j arr (by omega) hs
   have hc:=hcmp x y
   clear hst hle hfs hs hcmp
   generalize xP x.row y.row=cr at *
   cbv
   refine zO 17 (by cbv) ?_
   cbv
   refine xR om ?_
   cbv
   refine⟨yD om om,?_⟩
   cbv
   refine wY (l:=arr) (j+1) om (by omega) yS yO (fun t ht=>?_)
   obtain rfl:x=t:=by rw[hx] at ht;exact Option.some.inj ht
   cbv
   refine⟨zD om om,yD om om,?_⟩
   cbv
   refine wY (l:=arr) j om (by omega) yS yO (fun t' ht'=>?_)
   obtain rfl:y=t':=by rw[hy] at ht';exact Option.some.inj ht'
   cbv
   refine dA hc ?_
   cbv
   refine zH (fun e1=>?_) (fun e1=>?_)
   ·have hJ:=hlt1 e1
    clear hlt1 hge
    cbv
    refine l8 17 15 (by cbv) (by cbv) ?_
    cbv
    refine⟨zD om om,zD om om,yD om om,?_⟩
    cbv
    refine wY (l:=arr) j om (by omega) yS yO (fun t' ht'=>?_)
    obtain rfl:y=t':=by rw[hy] at ht';exact Option.some.inj ht'
    cbv
    refine⟨yD om om,?_⟩
    cbv
    refine wY (l:=arr) (j+1) om (by omega) yS yO (fun t ht=>?_)
    obtain rfl:x=t:=by rw[hx] at ht;exact Option.some.inj ht
    cbv
    refine⟨yD om om,?_⟩
    cbv
    refine wY (l:=arr) (j+1) om (by omega) yS yO (fun t0 ht0=>?_)
    cbv
    refine⟨yD om om,l7 (p:=mc) (arr.set (j+1) y) ?_ j om (by rw[List.length_set];omega) yS yO (fun t1 ht1=>?_)⟩
    ·show (enc mc arr).set (0+((j+1:Nat):Int).toNat) (yW (mc y))=_
     rw[w5]
     congr 2
     omega
    cbv
    refine⟨zD om om,(j,(arr.set (j+1) y).set j x),hJ,by simp only[];omega,.le ?_ ?_ rfl⟩
    ·cbv
     exact⟨lR,lR,lR,lR,zC om,trivial⟩
    ·cbv
     refine⟨zF ?_,trivial⟩
     show ((enc mc arr).set (0+((j+1:Nat):Int).toNat) (yW (mc y))).set (0+(((j+1:Nat):Int) - 1).toNat) (yW (mc x))=enc mc ((arr.set (j+1) y).set j x)
     rw[w5,w5,show 0+((j+1:Nat):Int).toNat=j+1 by omega,show 0+(((j+1:Nat):Int) - 1).toNat=j by omega]
   ·have hr:=hge e1
    cbv
    refine⟨zD om om,i+1,⟨om,om⟩,om,.le ?_ ?_ rfl⟩
    ·cbv
     exact⟨lR,lR,lR,zC om,trivial⟩
    ·cbv
     exact⟨zF (by rw[hr]),trivial⟩
 ·have hi':Z i=R1:=by
   by_cases g:b≤a
   ·rw[show i=a+1 by (try dsimp only [zG] at *);omega,hZ1];exact hZ0 g
   ·rw[show i=b by (try dsimp only [zG] at *);omega,hZb]
  cbv
  refine u9 (.le (ps':=⟨[],[(1000000,.arr 7 (fun _=>enc mc R1))]⟩) ?_ ?_ rfl) rfl trivial rfl rfl rfl rfl
  ·trivial
  ·cbv
   exact⟨zF (by rw[hi']),trivial⟩
theorem zR9 (l:List Mult)(N:Nat)(hN:N=l.length)(hl:N<2^30):Sound 174 [.osl 1000000 7 (fun _=>0) (fun _=>N),.int .i64 (fun _=>(N:Int)),.fn 119 []] (mao 1000000 l) [] (.tup []) (mao 1000000 (stS l)) []:=by
 refine uM zSV rfl rfl rfl rfl rfl ?_
 obtain⟨W,hW⟩:∃ W,chW=W:=⟨_,rfl⟩
 obtain⟨T,hT⟩:∃ T,stS=T:=⟨_,rfl⟩
 have hch1:∀ (r s:List Mult),r.length=20→W 20 (r++s)=T r++W 20 s:=fun r s h=>by rw[←hW,←hT];exact rA (by decide) h s
 have hchl:∀ w (r:List Mult),r.length≤w→W w r=T r:=fun w r h=>by rw[←hW,←hT];exact pJ h
 have hTl:∀ r:List Mult,(T r).length=r.length:=fun r=>by rw[←hT];exact lP r
 have hTs:∀ r:List Mult,Srt (T r):=fun r=>by rw[←hT];exact zBM r
 have hWl:∀ w (r:List Mult),0<w→(W w r).length=r.length:=fun w r h=>by rw[←hW];exact zOO h _ r (Nat.le_refl _)
 have hch2:∀ w (r s t:List Mult),0<w→r.length=w→s.length=w→W w (r++(s++t))=T r++(T s++W w t)∧W (2 * w) (r++(s++t))=mrgM (T r) (T s)++W (2 * w) t:=fun w r s t h1 h2 h3=>by
  rw[←hW,←hT];exact zON h1 h2 h3 t
 have hch3:∀ w (r s:List Mult),0<w→r.length=w→s.length≤w→W w (r++s)=T r++T s∧W (2 * w) (r++s)=mrgM (T r) (T s):=fun w r s h1 h2 h3=>by
  rw[←hW,←hT];exact zKL h1 h2 h3
 have hin:∀ (P r S:List Mult),P.length+(r.length+S.length)=N→Sound 204 [.osl 1000000 7 (fun _=>0) (fun _=>N),.int .i64 (fun _=>(P.length:Int)),.int .i64 (fun _=>((P.length+r.length:Nat):Int)),.fn 119 []] (mao 1000000 (P++(r++S))) [] (.tup []) (mao 1000000 (P++(T r++S))) []:=fun P r S h=>by
  rw[←hT]
  exact zSH P r S _ _ P.length (P.length+r.length) N rfl rfl (by omega) (by omega) rfl rfl
 have hsy:∀ (P A B S:List Mult),P.length+(A.length+(B.length+S.length))=N→0<A.length→0<B.length→Srt A→Srt B→Sound 205 [.osl 1000000 7 (fun _=>0) (fun _=>N),.int .i64 (fun _=>(P.length:Int)),.int .i64 (fun _=>((P.length+A.length:Nat):Int)),.int .i64 (fun _=>((P.length+A.length+B.length:Nat):Int)),.fn 119 []] (mao 1000000 (P++(A++(B++S)))) [] (.tup []) (mao 1000000 (P++(mrgM A B++S))) []:=fun P A B S h h1 h2 h3 h4 =>
  sSym _ P A B S _ _ P.length (P.length+A.length) (P.length+A.length+B.length) N (Nat.le_refl _) h1 h2 h3 h4 rfl rfl rfl (by omega) (by omega) rfl rfl
 rw[hT]
 clear hW hT
 generalize mrgM=mg at *
 cbv
 refine zY (σ:=List Mult × List Mult) (fun s=>⟨[(0,.osl 1000000 7 (fun _=>0) (fun _=>N)),(1,.int .i64 (fun _=>(N:Int))),(2,.fn 119 []),(6,.int .i64 (fun _=>20)),(7,.int .i64 (fun _=>(s.1.length:Int))),(8,.int .i64 (fun _=>((s.1.length+20:Nat):Int)))],[(1000000,.arr 7 (fun _=>enc mc (s.1++s.2)))]⟩)
  (fun s=>s.1.length+s.2.length=N∧s.1++W 20 s.2=W 20 l) (fun s=>s.2.length) ([],l) ⟨by simp only[List.length_nil];omega,rfl⟩ (.le ?_ ?_ rfl) ?_
 ·cbv
  exact okA
 ·cbv
  exact⟨zF rfl,trivial⟩
 intro s hs
 obtain⟨f1,f2⟩:=hs
 generalize s.1=D at *
 generalize s.2=r at *
 cbv
 refine zH (fun h5=>?_) (fun h5=>?_)
 ·have hr:20≤r.length:=by (try dsimp only [zG] at *);omega
  obtain⟨r1,r2,hr12,hl1,hl2⟩:∃ r1 r2,r=r1++r2∧r1.length=20∧r2.length=r.length - 20:=⟨r.take 20,r.drop 20,(List.take_append_drop _ _).symm,by rw[List.length_take];omega,List.length_drop⟩
  have ci:=hin D r1 r2 (by omega)
  have hT1:=hTl r1
  rw[hr12,hch1 r1 r2 hl1] at f2
  clear hin hsy hch1 hch2 hch3 hchl hTl hTs hWl
  subst hr12
  generalize T r1=T1 at *
  cbv
  refine y8 (fun n=>n) (Wk.sel _ [0,1,2,6,8,14,15,16,17] [1000000] rfl) rfl (by exact⟨lR,lR,zC om,⟨rfl,trivial⟩,trivial⟩) ci ⟨⟨rfl,rfl⟩,trivial⟩ rfl rfl rfl rfl rfl rfl rfl rfl ?_
  cbv
  refine⟨zD om om,(D++T1,r2),⟨by simp only[List.length_append];omega,by rw[←f2];simp⟩,by simp only[];omega,.le ?_ ?_ rfl⟩
  ·cbv
   exact⟨lR,lR,lR,zC (by simp only[List.length_append];(try dsimp only [zG] at *);omega),zC (by simp only[List.length_append];(try dsimp only [zG] at *);omega),trivial⟩
  ·cbv
   exact⟨zF (by simp),trivial⟩
 have hr:r.length<20:=by (try dsimp only [zG] at *);omega
 have ci:=hin D r [] (by simp only[List.length_nil];omega)
 rw[hchl 20 r (by omega)] at f2
 rw[List.append_nil,List.append_nil,f2] at ci
 clear hin hch1 f2
 cbv
 refine y8 (fun n=>n) (Wk.sel _ [0,1,2,6,23,24,25,26] [1000000] rfl) rfl (by exact⟨lR,lR,zC om,⟨rfl,trivial⟩,trivial⟩) ci ⟨⟨rfl,rfl⟩,trivial⟩ rfl rfl rfl rfl rfl rfl rfl rfl ?_
 cbv
 clear ci f1 hr h5
 refine zY (σ:=Nat) (fun w=>⟨[(0,.osl 1000000 7 (fun _=>0) (fun _=>N)),(1,.int .i64 (fun _=>(N:Int))),(2,.fn 119 []),(6,.int .i64 (fun _=>(w:Int)))],[(1000000,.arr 7 (fun _=>enc mc (W w l)))]⟩)
  (fun w=>20≤w∧w<2^31) (fun w=>2^31 - w) 20 ⟨Nat.le_refl _,by decide⟩ (.le ?_ ?_ rfl) ?_
 ·cbv
  exact okA
 ·cbv
  exact⟨zF rfl,trivial⟩
 intro w hw
 obtain⟨w1,w2⟩:=hw
 cbv
 refine zH (fun h5=>?_) (fun h5=>?_)
 rotate_left
 ·have e:=hchl w l om
  clear hsy hch2 hch3 hchl hTl hTs hWl
  generalize T l=T1 at *
  cbv
  refine u9 (.le (ps':=⟨[],[(1000000,.arr 7 (fun _=>enc mc T1))]⟩) ?_ ?_ rfl) rfl trivial rfl rfl rfl rfl
  ·trivial
  ·cbv
   exact⟨zF (by rw[e]),trivial⟩
 have hwN:w<N:=by (try dsimp only [zG] at *);omega
 cbv
 refine⟨zD om om,?_⟩
 refine zY (σ:=List Mult × List Mult) (fun s=>⟨[(0,.osl 1000000 7 (fun _=>0) (fun _=>N)),(1,.int .i64 (fun _=>(N:Int))),(2,.fn 119 []),(6,.int .i64 (fun _=>(w:Int))),(7,.int .i64 (fun _=>(s.1.length:Int))),(8,.int .i64 (fun _=>((s.1.length+2 * w:Nat):Int)))],[(1000000,.arr 7 (fun _=>enc mc (s.1++W w s.2)))]⟩)
  (fun s=>s.1.length+s.2.length=N∧s.1++W (2 * w) s.2=W (2 * w) l) (fun s=>s.2.length) ([],l) ⟨by simp only[List.length_nil];omega,rfl⟩ (.le ?_ ?_ rfl) ?_
 ·cbv
  exact⟨lR,lR,lR,lR,zC (by show _=((0+2 * w:Nat):Int);(try dsimp only [zG] at *);omega),trivial⟩
 ·cbv
  exact⟨zF rfl,trivial⟩
 intro s hs
 obtain⟨f1,f2⟩:=hs
 generalize s.1=D at *
 generalize s.2=r at *
 cbv
 refine zH (fun h6=>?_) (fun h6=>?_)
 ·have hr:2 * w≤r.length:=by (try dsimp only [zG] at *);omega
  obtain⟨r1,r2,r3,hr12,hl1,hl2,hl3⟩:∃ r1 r2 r3,r=r1++(r2++r3)∧r1.length=w∧r2.length=w∧r3.length=r.length - 2 * w:=⟨r.take w,(r.drop w).take w,(r.drop w).drop w,by rw[List.take_append_drop,List.take_append_drop],by rw[List.length_take];omega,by rw[List.length_take,List.length_drop];omega,by rw[List.length_drop,List.length_drop];omega⟩
  obtain⟨g1,g2⟩:=hch2 w r1 r2 r3 (by omega) hl1 hl2
  have ci:=hsy D (T r1) (T r2) (W w r3) (by rw[hTl,hTl,hWl w r3 (by omega)];omega) (by rw[hTl];omega) (by rw[hTl];omega) (hTs r1) (hTs r2)
  rw[hTl,hTl,hl1,hl2,←g1] at ci
  rw[hr12,g2] at f2
  have hml:(mg (T r1) (T r2)).length=2 * w:=by
   have k1:=congrArg List.length g2
   have k2:=hWl (2 * w) (r1++(r2++r3)) (by omega)
   have k3:=hWl (2 * w) r3 (by omega)
   simp only[List.length_append] at k1 k2
   omega
  subst hr12
  clear hsy hch2 hch3 hchl hTl hTs hWl g1 g2
  generalize mg (T r1) (T r2)=M at *
  generalize W w (r1++(r2++r3))=W1 at *
  cbv
  refine⟨zD om om,?_⟩
  refine y8 (fun n=>n) (Wk.sel _ [0,1,2,6,8,36,37,40,41,42] [1000000] rfl) rfl (by exact⟨lR,lR,zC om,zC om,⟨rfl,trivial⟩,trivial⟩) ci ⟨⟨rfl,rfl⟩,trivial⟩ rfl rfl rfl rfl rfl rfl rfl rfl ?_
  cbv
  refine⟨zD om om,zD om om,(D++M,r3),⟨by simp only[List.length_append];omega,by rw[←f2];simp⟩,by simp only[];omega,.le ?_ ?_ rfl⟩
  ·cbv
   exact⟨lR,lR,lR,zC (by simp only[List.length_append];(try dsimp only [zG] at *);omega),zC (by simp only[List.length_append];(try dsimp only [zG] at *);omega),trivial⟩
  ·cbv
   exact⟨zF (by simp),trivial⟩
 have hr:r.length<2 * w:=by (try dsimp only [zG] at *);omega
 cbv
 refine⟨zD om om,?_⟩
 refine zH (fun h7=>?_) (fun h7=>?_)
 ·have hr2:w<r.length:=by (try dsimp only [zG] at *);omega
  obtain⟨r1,r2,hr12,hl1,hl2⟩:∃ r1 r2,r=r1++r2∧r1.length=w∧r2.length=r.length - w:=⟨r.take w,r.drop w,(List.take_append_drop _ _).symm,by rw[List.length_take];omega,List.length_drop⟩
  obtain⟨g1,g2⟩:=hch3 w r1 r2 (by omega) hl1 (by omega)
  have ci:=hsy D (T r1) (T r2) [] (by rw[hTl,hTl,List.length_nil];omega) (by rw[hTl];omega) (by rw[hTl];omega) (hTs r1) (hTs r2)
  rw[hTl,hTl,hl1,List.append_nil,List.append_nil,←g1,←g2,←hr12,f2] at ci
  clear hsy hch2 hch3 hchl hTl hTs hWl g1 g2 hr12
  generalize W w r=W1 at *
  cbv
  refine y8 (fun n=>n) (Wk.sel _ [0,1,2,6,55,56,57,58,59] [1000000] rfl) rfl (by exact⟨lR,lR,zC om,zC om,⟨rfl,trivial⟩,trivial⟩) ci ⟨⟨rfl,rfl⟩,trivial⟩ rfl rfl rfl rfl rfl rfl rfl rfl ?_
  cbv
  refine⟨zD om om,2 * w,⟨om,by omega⟩,by omega,.le ?_ ?_ rfl⟩
  ·cbv
   exact⟨lR,lR,zC om,trivial⟩
  ·cbv
   exact⟨zF rfl,trivial⟩
 ·have e1:=hchl w r om
  have e2:=hchl (2 * w) r (by omega)
  rw[e2] at f2
  clear hsy hch2 hch3 hchl hTl hTs hWl
  cbv
  refine⟨zD om om,2 * w,⟨om,by omega⟩,by omega,.le ?_ ?_ rfl⟩
  ·cbv
   exact⟨lR,lR,zC om,trivial⟩
  ·cbv
   exact⟨zF (by rw[e1,f2]),trivial⟩
theorem zQC (l:List Mult)(hl:l.length<2^30):Sound 118 [.osl 1000000 7 (fun _=>0) (fun _=>l.length),.fn 119 []] (mao 1000000 l) [] (.tup []) (mao 1000000 (isr l).reverse) []:=by
 refine uM zQ5 rfl rfl rfl rfl rfl ?_
 have ci:=zR9 l l.length rfl hl
 rw[show stS l=(isr l).reverse from rfl] at ci
 generalize (isr l).reverse=R at *
 cbv
 refine y8 (fun n=>n) (.refl _) rfl (by exact⟨lR,lR,⟨rfl,trivial⟩,trivial⟩) ci ⟨⟨rfl,rfl⟩,trivial⟩ rfl rfl rfl rfl rfl rfl rfl rfl ?_
 cbv
 exact zFM rfl trivial rfl rfl rfl rfl
theorem zB5:∀ (l:List (Row × Rat)) (w:Row),jM (mR l) w=cor l w
 | [],w=>rfl
 | t::l,w=>by
  show (if t.1=w then (zJ t.2).q else 0)+jM (mR l) w=(if t.1=w then t.2 else 0)+cor l w
  rw[z9,zB5 l w]
theorem nC (c:Rat)(w:Row):∀ b a,cor (x9 a b c) w=cor a w+c * cor b w
 | [],a=>by show cor a w=cor a w+c * 0;grind
 | t::b,a=>by
  show cor (x9 (plMq a t.1 (t.2 * c)) b c) w=cor a w+c * ((if t.1=w then t.2 else 0)+cor b w)
  rw[nC c w b,zKI]
  split <;> grind
theorem zHK:∀ {l:List (Row × Rat)},Rs l→∀ t,t∈l→cor l t.1=t.2
 | [],_,t,h=>absurd h (by simp)
 | a::l,hr,t,h=>by
  rcases List.mem_cons.1 h with rfl | h
  ·exact sB hr
  ·have:=zHK hr.tail t h
   show (if a.1=t.1 then a.2 else 0)+cor l t.1=t.2
   rw[if_neg (fun e=>by have:=hr.lt t h;rw[e] at this;exact kN this),this]
   grind
theorem oR {k:Nat}(hk:1≤k):∀ {l:List (Row × Rat)},Rs l→(∀ t,t∈l→Fits k t.2)→∀ w,Fits k (cor l w)
 | [],_,_,w=>w8 hk
 | a::l,hr,hf,w=>by
  by_cases e:a.1=w
  ·subst e
   rw[sB hr]
   exact hf a List.mem_cons_self
  ·show Fits k ((if a.1=w then a.2 else 0)+cor l w)
   rw[if_neg e,show (0:Rat)+cor l w=cor l w by grind]
   exact oR hk hr.tail (fun t ht=>hf t (List.mem_cons_of_mem _ ht)) w
theorem zCN {a b:List (Row × Rat)}(ha:Rs a)(hb:Rs b):dP (mR a++mR b)=(0,x9 a b 1):=by
 have hpos:∀ m,m∈mR a++mR b→0≤m.c.q:=fun m hm=>by
  rcases List.mem_append.1 hm with hm | hm
  ·obtain⟨t,ht,rfl⟩:=List.mem_map.1 hm
   rw[show (zJ t.2).q=t.2 from z9 _]
   exact Rat.le_of_lt (ha.p t ht)
  ·obtain⟨t,ht,rfl⟩:=List.mem_map.1 hm
   rw[show (zJ t.2).q=t.2 from z9 _]
   exact Rat.le_of_lt (hb.p t ht)
 have hany:((mR a++mR b).any fun m=>decide (yB m.c.q<0))=false:=by
  rw[List.any_eq_false]
  intro m hm h
  have h1:=zGO.1 (of_decide_eq_true h)
  have h2:=hpos m hm
  grind
 have e1:dP (mR a++mR b)=(0,grp (isr (mR a++mR b)).reverse):=if_neg (by rw[hany];decide)
 rw[e1]
 congr 1
 refine Rs.ext (zQ6 (eX _)) (mE (by decide) (fun t ht=>Rat.le_of_lt (hb.p t ht)) ha) (fun w=>?_)
 rw[zOK (fun m hm=>hpos m (zG8 (List.mem_reverse.1 hm))),zKJ,zKK,zEE,zB5,zB5,nC]
 grind
theorem pB (c:Rat):∀ (b a:List (Row × Rat)),(x9 a b c).length≤a.length+b.length
 | [],a=>by show a.length≤_;simp
 | t::b,a=>by
  show (x9 (plMq a t.1 (t.2 * c)) b c).length≤_
  have h1:=pB c b (plMq a t.1 (t.2 * c))
  have h2:(plMq a t.1 (t.2 * c)).length≤a.length+1:=by
   unfold plMq
   split
   ·omega
   ·exact lT _ _ _
  rw[List.length_cons]
  omega
theorem zBJ {s:Scp}{x:FQry}(hq:s.q=x.q)(hs:x.small)(hx:x.ok){l:List (Row × Rat)}(hr:Rs l)(ha:AV s l):(s.sum (mR l)).2.wf ((x.g.n+x.g.us.length:Nat):Int):=by
 obtain⟨f,k1,_⟩:=lM (acc:=F.zero) ha
 have hw:=zBK (zO9 hq hs hx) (F.wf.zero0 _) k1
 have:s.sum (mR l)=(0,f):=by
  unfold Scp.sum
  rw[mD hr (fun w e=>by cases e),k1]
  rfl
 rw[this]
 exact hw
theorem zEY {s:Scp}{x:FQry}(hq:s.q=x.q)(hs:x.small)(hx:x.ok){a b:List (Row × Rat)}(ra:Rs a)(rb:Rs b)(va:AV s a)(vb:AV s b) :
  s.proves (fA ((s.sum (mR a)).2.add (s.sum (mR b)).2)) (mR (x9 a b 1))=true:=by
 have hn:=hs.g.n2
 have hu:=hs.g.us
 obtain⟨f,h1,h2,h3,h4⟩:=mH ra va
 obtain⟨g,k1,k2,k3,k4⟩:=mH rb vb
 have w1:=zBJ hq hs hx ra va
 have w2:=zBJ hq hs hx rb vb
 rw[h1] at w1 ⊢
 rw[k1] at w2 ⊢
 refine mT hq hx (mE (by decide) (fun t ht=>Rat.le_of_lt (rb.p t ht)) ra) (zER vb va) (w1.add w2) (by omega) (fun w=>?_) ?_
 ·rw[zGD,h2,k2,zEQ];grind
 ·have e:(f.add g).c=f.c+g.c * 1:=rfl
  rw[e,h3,k3,zEP];grind
def fF (k:Rat) (l:List (Row × Rat)):List (Row × Rat):=l.map fun t=>(t.1,t.2 * k)
theorem zNC {k:Rat}(hk:0<k){l:List (Row × Rat)}(h:Rs l):Rs (fF k l) :=
 ⟨by unfold fF;rw[List.pairwise_map];exact h.s,fun u hu=>by
  obtain⟨t,ht,rfl⟩:=List.mem_map.1 hu
  exact Rat.mul_pos (h.p t ht) hk⟩
theorem zL6 (s:Scp)(v:Int)(k:Rat):∀ l,SC s v (fF k l)=SC s v l * k
 | []=>by show SC s v []=SC s v [] * k;simp only[SC];grind
 | t::l=>by
  show SC s v ((t.1,t.2 * k)::fF k l)=_
  simp only[SC]
  rw[zL6 s v k l]
  grind
theorem zL4 (s:Scp)(k:Rat):∀ l,SK s (fF k l)=SK s l * k
 | []=>by show SK s []=SK s [] * k;simp only[SK];grind
 | t::l=>by
  show SK s ((t.1,t.2 * k)::fF k l)=_
  simp only[SK]
  rw[zL4 s k l]
  grind
theorem zRV {s:Scp}{k:Rat}{l:List (Row × Rat)}(h:AV s l):AV s (fF k l):=fun u hu=>by
 obtain⟨t,ht,rfl⟩:=List.mem_map.1 hu
 exact h t ht
theorem zE3 {s:Scp}{x:FQry}(hq:s.q=x.q)(hs:x.small)(hx:x.ok){l:List (Row × Rat)}(hr:Rs l)(ha:AV s l){k:Rat}(hk:0<k):s.proves (fA ((s.sum (mR l)).2.scale k)) (mR (fF k l))=true:=by
 have hn:=hs.g.n2
 have hu:=hs.g.us
 obtain⟨f,h1,h2,h3,h4⟩:=mH hr ha
 have w1:=zBJ hq hs hx hr ha
 rw[h1] at w1 ⊢
 refine mT hq hx (zNC hk hr) (zRV ha) w1.scale (by omega) (fun w=>?_) ?_
 ·rw[zEG,h2,zL6]
 ·have e:(f.scale k).c=0+f.c * k:=rfl
  rw[e,h3,zL4];grind
theorem zJR (l:List Mult)(hl:l.length<2^38):Sound 56 [mlv l] [] [] (.osl 100 7 (fun _=>0) (fun _=>l.length)) [] (mao 100 l):=by
 refine uM zJ5 rfl rfl rfl rfl rfl ?_
 cbv
 refine k7 uW rfl rfl (xN yO _) (z7 (by simp only[zA];omega) (by simp only[zA];omega)) rfl ?_
 cbv
 refine nO (ps':=⟨[(2,.osl 5 7 (fun _=>0) (fun _=>l.length))],[(5,.arr 7 (fun _=>enc mc l))]⟩) 5 (.le ?_ ?_ rfl) rfl rfl rfl ?_
 ·cbv;exact⟨z0 rfl (by rw[zA]),trivial⟩
 ·cbv;exact⟨zF rfl,trivial⟩
 ·cbv;exact lR
theorem zCG {a b:List (Row × Rat)}(ra:Rs a)(rb:Rs b)(fa:∀ t,t∈a→Fits 100 t.2)(fb:∀ t,t∈b→Fits 100 t.2):∀ t,t∈x9 a b 1→Fits 202 t.2:=fun t ht=>by
 have hr:=mE (c:=1) (by decide) (fun t ht=>Rat.le_of_lt (rb.p t ht)) ra
 have h:=zHK hr t ht
 rw[nC] at h
 rw[←h,show (1:Rat) * cor b t.1=cor b t.1 by grind]
 exact (vI (oR (by decide) ra fa t.1) (oR (by decide) rb fb t.1)).mono (by decide)
def lE (q:Rat) (l:List (Row × Rat)) (i:Nat):List Mult:=mR (fF q (l.take i)++l.drop i)
theorem zJE (q:Rat)(l:List (Row × Rat))(i:Nat):(lE q l i).length=l.length:=by
 unfold lE fF
 rw[x6,List.length_append,List.length_map,List.length_take,List.length_drop]
 omega
theorem zHY (q:Rat)(l:List (Row × Rat)):lE q l 0=mR l:=by simp [lE,fF]
theorem zJG (q:Rat)(l:List (Row × Rat)):lE q l l.length=mR (fF q l):=by simp [lE]
theorem zJF {q:Rat}{l:List (Row × Rat)}{i:Nat}{t:Row × Rat}(h:l[i]?=some t):(lE q l i)[i]?=some ⟨t.1,zJ t.2⟩:=by
 have hi:=(List.getElem?_eq_some_iff.1 h).1
 have hl:(fF q (l.take i)).length=i:=by unfold fF;rw[List.length_map,List.length_take];omega
 unfold lE mR
 rw[List.getElem?_map,List.getElem?_append_right (by omega),hl,Nat.sub_self,List.getElem?_drop,Nat.add_zero,h]
 rfl
theorem zJD {q:Rat}{l:List (Row × Rat)}{i:Nat}{t:Row × Rat}(h:l[i]?=some t):(lE q l i).set i ⟨t.1,zJ (t.2 * q)⟩=lE q l (i+1):=by
 have hi:=(List.getElem?_eq_some_iff.1 h).1
 have hl:(fF q (l.take i)).length=i:=by unfold fF;rw[List.length_map,List.length_take];omega
 unfold lE
 rw[zZ h,List.take_add_one,h]
 unfold mR
 have e:fF q (List.take i l++(some t).toList)=fF q (l.take i)++[(t.1,t.2 * q)]:=by unfold fF;simp
 rw[e,List.map_append,List.set_append_right _ _ (by rw[List.length_map,hl];exact Nat.le_refl _),List.length_map,hl,Nat.sub_self]
 simp
structure CbF (B:Scp) (a b:List UInt8) (S G F H:A) (l m both:List Mult) (q:R) (X:Nat→List Mult) (N:Nat):Prop where
 d0:zE 17 [sv B,u8v a] (mlv l)
 d1:zE 17 [sv B,u8v b] (mlv m)
 d2:zE 18 [sv B,mlv l] (.tup [av S,.int .i64 (fun _=>0)])
 d3:zE 18 [sv B,mlv m] (.tup [av G,.int .i64 (fun _=>0)])
 d4:zE 55 [mlv (l++m)] (.tup [mlv both,.int .i64 (fun _=>0)])
 d5:zE 40 [.int .i64 (fun _=>1+(a.length:Int))] (rv q)
 d6:zE 58 [av S,av G] (av F)
 d7:zE 20 [sv B,av F,mlv both] (.bool (fun _=>true))
 d8:zE 59 [av S,rv q] (av H)
 d9:zE 20 [sv B,av H,mlv (X N)] (.bool (fun _=>true))
 n:N=l.length
 ll:l.length≤100
 lm:m.length≤100
 x0:X 0=l
 xl:∀ i,(X i).length=N
 st:∀ i,i<N→∃ (r:Row) (c c':R),(X i)[i]?=some ⟨r,c⟩∧(X i).set i ⟨r,c'⟩=X (i+1)∧zE 57 [rv c,rv q] (rv c')
theorem zKM (raw a b:List UInt8)(ha:a.length≤30)(hb:b.length≤30):∃ S G F H l m both q X N,CbF (fdS raw).bounded a b S G F H l m both q X N:=by
 have C:=oS (raw:=raw) ha
 have C':=oS (raw:=raw) hb
 have hx:=v5 raw 0
 have hok:=zGA raw 0
 have bz:=dC raw
 have c0:=i3 raw a ha
 have ln0:(qV (fdS raw).bounded.all a []).length≤30:=by
  have:=(s8 (rs:=(fdS raw).bounded.all) (ws:=a) (l:=[]) (i:=0) (fun t ht=>absurd ht (by simp)) (Nat.le_refl _)).2
  omega
 have ln1:(qV (fdS raw).bounded.all b []).length≤30:=by
  have:=(s8 (rs:=(fdS raw).bounded.all) (ws:=b) (l:=[]) (i:=0) (fun t ht=>absurd ht (by simp)) (Nat.le_refl _)).2
  omega
 have c1:=i3 raw b hb
 generalize qV (fdS raw).bounded.all a []=l at *
 generalize qV (fdS raw).bounded.all b []=m at *
 have fl:=Scp.sum_fl' C.ok
 have fl':=Scp.sum_fl' C'.ok
 have hcn:=Scp.sum_can (fdS raw).bounded (mR l)
 have hcn':=Scp.sum_can (fdS raw).bounded (mR m)
 have c2:=p7 (fdS raw).bounded (mR l) bz C.ok
 rw[nD C] at c2
 have c3:=p7 (fdS raw).bounded (mR m) bz C'.ok
 rw[nD C'] at c3
 have l1:=C.len
 have l2:=C'.len
 have hz:Msz (2^20) (mR l++mR m):=⟨by rw[List.length_append];omega,fun x hx=>by
  rcases List.mem_append.1 hx with hx | hx
  ·exact C.sz.sz x hx
  ·exact C'.sz.sz x hx⟩
 have c4:=zJQ (mR l++mR m) (by rw[List.length_append];omega) hz (zQC _ (by rw[List.length_append];omega))
 rw[zCN C.rs C'.rs] at c4
 have hq1:(0:Rat)<((1+(a.length:Int):Int):Rat):=Rat.intCast_pos.2 (by omega)
 have hqf:Fits 3 ((1+(a.length:Int):Int):Rat):=⟨by rw[Rat.num_intCast];exact Nat.lt_of_le_of_lt (by omega:(1+(a.length:Int)).natAbs≤256) (by decide),by rw[Rat.den_intCast];decide⟩
 have c5:=s32 (1+(a.length:Int)) (by omega) (by omega)
 generalize ((1+(a.length:Int):Int):Rat)=q at *
 have c6:=zMB hcn hcn' fl fl' (by decide) (by decide) (by decide) (by decide)
 have z1:=zMJ (fl.add fl') (by decide)
 have c7:=sI (fdS raw).bounded (fA (((fdS raw).bounded.sum (mR l)).2.add ((fdS raw).bounded.sum (mR m)).2)) (mR (x9 l m 1)) bz (z1.mono (by decide)) ⟨by rw[x6];have:=pB 1 m l;rw[x6] at l1 l2;omega,fun x hx=>by
  obtain⟨t,ht,rfl⟩:=List.mem_map.1 hx
  exact (z8 (zCG C.rs C'.rs C.coef C'.coef t ht)).mono (by decide)⟩ (by rw[x6];have:=pB 1 m l;omega)
 rw[zEY (zEX raw) hx hok C.rs C'.rs C.av C'.av] at c7
 have c8:=gP fl hqf (by decide) (by decide) (by decide)
 have z2:=zMJ (fl.scale hqf) (by decide)
 have hsf:∀ t,t∈fF q l→Fits 103 t.2:=fun u hu=>by
  obtain⟨t,ht,rfl⟩:=List.mem_map.1 hu
  exact wB (C.coef t ht) hqf
 have hsl:(mR (fF q l)).length≤100:=by rw[x6];unfold fF;rw[List.length_map];rw[x6] at l1;exact l1
 have c9:=sI (fdS raw).bounded (fA (((fdS raw).bounded.sum (mR l)).2.scale q)) (mR (fF q l)) bz (z2.mono (by decide)) ⟨by omega,fun x hx=>by
  obtain⟨t,ht,rfl⟩:=List.mem_map.1 hx
  exact (z8 (hsf t ht)).mono (by decide)⟩ hsl
 rw[zE3 (zEX raw) hx hok C.rs C.av hq1,←zJG] at c9
 refine⟨_,_,_,_,mR l,mR m,_,zJ q,lE q l,l.length,c0,c1,c2,c3,c4,c5,c6,c7,c8,c9,(x6 l).symm,l1,l2,zHY q l,zJE q l,fun i hi=>?_⟩
 obtain⟨t,ht⟩:=yA hi
 have tm:=List.mem_of_getElem? ht
 have cm:=s77 (zJ t.2) (zJ q) ((z8 (C.coef t tm)).mono (by decide)) ((z8 hqf).mono (by decide))
 rw[z9,z9] at cm
 exact⟨t.1,zJ t.2,_,zJF ht,zJD ht,cm⟩
theorem zQM (raw a b:List UInt8)(hr:raw.length≤9223372036854775807)(ha:a.length≤9223372036854775807)(hb:b.length≤9223372036854775807):zE 12 [u8v raw,u8v a,u8v b] (.bool (fun _=>true)):=by
 refine sF Tryz.f12 ?_
 have ca:=zFZ
 have csc:raw.length≤400→zE 14 [u8v raw] (sv (fdS raw).bounded):=fun h=>iZ raw (by omega)
 have facts:=fun h1 h2=>zKM raw a b h1 h2
 generalize (fdS raw).bounded=Bd at *
 obtain⟨⟨⟨n,us,os⟩,⟨lo,hi',rows⟩,⟨ts,c⟩⟩,path,lems⟩:=Bd
 cbv
 refine cA ca ?_
 cbv
 refine zC5 rfl ?_
 cbv
 refine zR (fun h4=>?_) (fun h4=>?_)
 ·cbv
  (refine rC ?_;cbv)
  exact yL rfl
 have h4':raw.length≤400:=by rw[zA] at h4;(try dsimp only [zG] at *);omega
 have csc':=csc h4'
 clear csc
 cbv
 refine zR (fun h5=>?_) (fun h5=>?_)
 ·cbv
  (refine rC ?_;cbv)
  exact yL rfl
 have h5':a.length≤30:=by rw[zA] at h5;(try dsimp only [zG] at *);omega
 cbv
 refine zH (fun h6=>?_) (fun h6=>?_)
 ·cbv
  (refine rC ?_;cbv)
  exact yL rfl
 have h6':b.length≤30:=by rw[zA] at h6;(try dsimp only [zG] at *);omega
 obtain⟨S,G,F,H,l,m,both,q,X,N,f⟩:=facts h5' h6'
 clear facts
 obtain⟨d0,d1,d2,d3,d4,d5,d6,d7,d8,d9,fN,ll,lm',x0,xl,st⟩:=f
 obtain⟨Sts,Sc⟩:=S
 obtain⟨Gts,Gc⟩:=G
 have cc:=zJR l (by omega)
 cbv
 refine cA csc' ?_
 cbv
 refine zO 8 (by cbv) ?_
 cbv
 refine dA d0 ?_
 cbv
 refine dA d1 ?_
 cbv
 refine cA d2 ?_
 cbv
 refine cA d3 ?_
 cbv
 clear d0 d1 d2 d3 csc'
 refine y8 (fun _=>300) (.refl _) rfl okA cc trivial rfl rfl rfl rfl rfl rfl rfl rfl ?_
 cbv
 refine zEL uW rfl rfl rfl (by rw[zA]) rfl (xN yO _) (z7 (by simp only[zA];omega) (by simp only[zA];omega)) rfl ?_
 cbv
 refine uT (.frz 300 rfl rfl (by cbv;repeat' first | exact trivial | exact zX (by simp [zA]) | apply And.intro) (by cbv;repeat' first | exact trivial | exact zX (by simp [zA]) | apply And.intro)) rfl (by exact⟨zP (by rw[yH,List.drop_zero,List.take_of_length_le (by simp [zA])]),trivial⟩) d4 rfl ?_
 cbv
 clear d4
 refine⟨zD (by rw[zA];(try dsimp only [zG] at *);omega) (by rw[zA];(try dsimp only [zG] at *);omega),?_⟩
 cbv
 refine yX rfl (by exact⟨zC (by rw[zA]),trivial⟩) d5 rfl ?_
 cbv
 clear d5
 refine y8 (fun _=>300) (.refl _) rfl okA cc trivial rfl rfl rfl rfl rfl rfl rfl rfl ?_
 cbv
 clear cc
 refine zY (σ:=Nat) (fun i=>⟨[(7,.ptr 7 0),(10,.ptr 10 0),(12,.ptr 12 0),(14,mlv both),(15,.int .i64 (fun _=>0)),(16,.ptr 16 0),(17,.osl 300 7 (fun _=>0) (fun _=>N)),(18,.int .i64 (fun _=>(i:Int)))],
   [(7,.box [.int .i64 (fun _=>n),alv us,alv os,rlv lo,rlv hi',alv rows,tsv ts,.bool (fun _=>c.neg),nat c.num,nat c.den,dlv path,llv lems]),(10,.box [tsv Sts,.bool (fun _=>Sc.neg),nat Sc.num,nat Sc.den]),(12,.box [tsv Gts,.bool (fun _=>Gc.neg),nat Gc.num,nat Gc.den]),(16,.box [.bool (fun _=>q.neg),nat q.num,nat q.den]),(300,.arr 7 (fun _=>enc mc (X i)))]⟩)
  (fun i=>i≤N) (fun i=>N - i) 0 (Nat.zero_le _) (.le ?_ ?_ rfl) ?_
 ·cbv
  exact⟨lR,lR,lR,lR,lR,lR,z0 rfl fN.symm,zC rfl,trivial⟩
 ·cbv
  repeat' first | exact trivial | exact lR | exact zF (by rw[x0]) | apply And.intro
 intro i hi
 have hXl:=xl i
 cbv
 refine zH (fun h=>?_) (fun h=>?_)
 ·have hlt:i<N:=by (try dsimp only [zG] at *);omega
  obtain⟨r,co,co',g1,g2,cm⟩:=st i hlt
  clear st d7 d6 d8 d9
  cbv
  refine zO 9 (by cbv) ?_
  cbv
  refine⟨yD om om,?_⟩
  cbv
  refine wY (l:=X i) i om (by omega) yS yO (fun t ht=>?_)
  obtain rfl:(⟨r,co⟩:Mult)=t:=by rw[g1] at ht;exact Option.some.inj ht
  cbv
  refine dA cm ?_
  cbv
  refine⟨yD om om,?_⟩
  cbv
  refine wY (l:=X i) i om (by omega) yS yO (fun t ht=>?_)
  obtain rfl:(⟨r,co⟩:Mult)=t:=by rw[g1] at ht;exact Option.some.inj ht
  cbv
  have hst:(enc mc (X i)).set (0+((i:Nat):Int).toNat) (yW (mc ⟨r,co'⟩))=enc mc (X (i+1)):=by
   rw[show 0+((i:Nat):Int).toNat=i by omega,w5,g2]
  refine⟨zD om om,i+1,(by show i+1≤N;omega),(by show N - (i+1)<N - i;omega),.le ?_ ?_ rfl⟩
  ·cbv
   repeat' first | exact trivial | exact lR | exact zC om | apply And.intro
  ·cbv
   repeat' first | exact trivial | exact lR | exact zF hst | apply And.intro
 ·have hN:i=N:=by (try dsimp only [zG] at *);omega
  subst hN
  clear st x0
  cbv
  refine fZ 18 (.frz 300 rfl rfl (by cbv;repeat' first | exact trivial | exact zX (by rw[zA];omega) | apply And.intro) (by cbv;repeat' first | exact trivial | exact zX (by rw[zA];omega) | apply And.intro)) (by cbv) ?_
  cbv
  refine xR rfl ?_
  cbv
  refine dA d6 ?_
  cbv
  refine dA d7 ?_
  cbv
  refine zEW rfl ?_
  cbv
  refine dA d8 ?_
  cbv
  refine yU (by exact⟨okA,okA,zP (by rw[List.drop_zero,List.take_of_length_le (by rw[zA];omega)]),trivial⟩) d9 rfl ?_
  cbv
  (refine rC ?_;cbv)
  first | exact yL rfl | exact zV rfl
end Go.Proofs.YtgcpehdkdnkgeaaGreat
