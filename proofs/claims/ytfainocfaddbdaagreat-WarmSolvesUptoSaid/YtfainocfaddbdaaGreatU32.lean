/- A part of the proof: SyI, SyJ, SyK, SyL. -/
import Derived.Test.YtfainocfaddbdaaGreatU31
import Derived.Test.YtfainocfaddbdaaGreatU27
set_option linter.all false
namespace Go.Proofs.YtfainocfaddbdaaGreat
open Go
set_option maxRecDepth 100000
set_option maxHeartbeats 4000000
theorem zO6 {n w:Nat}{k:Rat}{K:R}(h:zJ k=K):(List.replicate n [D.bool false,D.sl [],D.sl []]).set w [D.bool K.neg,D.sl (lm K.num),D.sl (lm K.den)]=enc cq ((List.replicate n 0).set w k):=by rw[d7];exact p7 h
theorem zJ0:Pg.funcs[57]?=some Tryz.f57:=by rw[vJ];rfl
theorem zVB (v r:Nat)(D:Dic)(p:Nat)(hl:D.ob.length=D.nb.length+1)(hn:D.nb.length<2^40)(hr:r<2^40)(hv:v<2^40)(hy:∀ y,y∈D.nb->y<2^41):Sound 57 [.ptr 1000000 0,.osl 1000004 3 (fun _=>0) (fun _=>D.ob.length)] (tO v r D p) [] (.sl (fun _=>enc cq (oF v r D.nb D.ob))) (tO v r D p) []:=by
 refine yW zJ0 rfl rfl rfl rfl rfl ?_;obtain⟨E,hE⟩:∃ E,oF v r D.nb D.ob=E:=⟨_,rfl⟩;rw[hE];cbv;refine⟨yB om om,vF om om,?_⟩;refine zX (σ:=Nat×List Rat) (fun s=>⟨[(0,.ptr 1000000 0),(1,.osl 1000004 3 (fun _=>0) (fun _=>D.ob.length)),(5,.osl 13 3 (fun _=>0) (fun _=>r)),(17,.osl 1000002 1 (fun _=>0) (fun _=>D.nb.length)),(18,.int .i64 (fun _=>(D.nb.length:Int))),(19,.int .i64 (fun _=>(s.1:Int)))],tO v r D p++[(13,.arr 3 (fun _=>enc cq s.2))]⟩)
  (fun s=>s.1<=D.nb.length/\s.2.length=r/\E=fC v r D.ob (D.nb.drop s.1) s.1 s.2) (fun s=>D.nb.length-s.1)
  (0,List.replicate r 0) ⟨by omega,by simp,by rw[<-hE];rfl⟩ (.le okZ (by cbv;repeat' first|exact trivial|exact lR|exact zB rfl|exact⟨rfl⟩|exact zB (by show List.replicate (Int.toNat _) _=_;exact d7 _)|apply zN) rfl) ?_
 intro s hs;obtain⟨j,o⟩:=s;obtain⟨g1,g2,g3⟩:=hs;dsimp only at g1 g2 g3;cbv;refine zD (fun h=>?_) (fun h=>?_)
 ·have hj:j<D.nb.length:=om;obtain⟨y,hyj⟩:=zO hj;have hyl:=hy y (zZ hyj);obtain⟨c,hc⟩:=zO (show j<D.ob.length by omega);have hd:D.nb.drop j=y::D.nb.drop (j+1):=by rw[c7 hj];congr 1;rw[wN hj] at hyj;exact vC hyj
  (rw[hd,fC,getD_some hc] at g3;obtain⟨C,hC⟩:∃ C,zJ c=C:=⟨_,rfl⟩;have hle:j+1<=D.nb.length:=hj;have hmu:D.nb.length-(j+1)<D.nb.length-j:=by omega);cbv
  refine⟨zQ om om,?_⟩;refine aN hyj om ?_;cbv;refine⟨zC om om,?_⟩;cbv;refine yD (fun h1=>?_) (fun h1=>?_)
  rotate_left
  {cbv;refine⟨zC om om,?_⟩;cbv;exact⟨(j+1,o),⟨hle,g2,g3.trans (by rw[if_neg (fun q=>h1 (by have:=q.1;(try dsimp only [zI] at *);omega))])⟩,hmu,wkW⟩};cbv;refine zD (fun h2=>?_) (fun h2=>?_)
  ·(have hyv:v<=y:=by (try dsimp only [zI] at *);omega);have hk:y-v<r:=by (try dsimp only [zI] at *);omega
   obtain⟨x,hx⟩:=zO (show y-v<o.length by omega);obtain⟨X,hX⟩:∃ X,zJ x=X:=⟨_,rfl⟩;cbv;refine⟨zQ om om,?_⟩;refine dK hc om hC ?_;cbv;refine⟨zQ om om,?_⟩;refine dK hx om hX ?_;cbv;refine⟨zC om om,?_⟩;cbv;exact⟨(j+1,o.set (y-v) c),⟨hle,by rw[kD];exact g2,g3.trans (by rw[if_pos ⟨hyv,hk⟩])⟩,hmu,.le okZ (by cbv;repeat' first|exact trivial|exact lR|exact zB rfl|exact⟨rfl⟩|exact zB (by show (enc cq o).set (0+Int.toNat _) _=enc cq (o.set (y-v) c);rw[xA,show Int.toNat ((y:Int)-(v:Int))=y-v by omega];exact p7 hC)|apply zN) rfl⟩
  {cbv;refine⟨zC om om,?_⟩;cbv;exact⟨(j+1,o),⟨hle,g2,g3.trans (by rw[if_neg (fun q=>h2 (by have:=q.2;have:=q.1;(try dsimp only [zI] at *);omega))])⟩,hmu,wkW⟩}
 ·(have hj:j=D.nb.length:=by (try dsimp only [zI] at *);omega);have hEo:o=E:=by rw[g3,hj,vG];rfl
  subst hEo;cbv;refine jF (.trans (wkW (ps':=⟨[(4,.osl 13 3 (fun _=>0) (fun _=>r))],tO v r D p++[(13,.arr 3 (fun _=>enc cq o))]⟩)) (.frz 13 rfl rfl (by cbv;repeat' first|exact trivial|exact yG (by rw[zK];omega)|apply zN) (by cbv;repeat' first|exact trivial|apply zN))) rfl okR (by rfl) okR ?_;refine zY ?_;show ((enc cq o).drop 0).take r=enc cq o;rw[uS,yN (by rw[zK];omega)]
theorem zRJ (v r:Nat)(D:Dic)(p:Nat)(i:Nat)(l:List Rat)(hl:l.length=D.nb.length+1)(hn:D.nb.length<2^40)(hr:r<2^40)(hv:v<2^40)(hy:∀ y,y∈D.nb->y<2^41):Sound 57 [.ptr 1000000 0,.osl 1000005 3 (fun _=>0) (fun _=>l.length)] (tHl v r D p i l) [] (.sl (fun _=>enc cq (oF v r D.nb l))) (tHl v r D p i l) []:=by
 refine yW zJ0 rfl rfl rfl rfl rfl ?_;obtain⟨E,hE⟩:∃ E,oF v r D.nb l=E:=⟨_,rfl⟩;rw[hE];cbv;refine⟨yB om om,vF om om,?_⟩;refine zX (σ:=Nat×List Rat) (fun s=>⟨[(0,.ptr 1000000 0),(1,.osl 1000005 3 (fun _=>0) (fun _=>l.length)),(5,.osl 13 3 (fun _=>0) (fun _=>r)),(17,.osl 1000002 1 (fun _=>0) (fun _=>D.nb.length)),(18,.int .i64 (fun _=>(D.nb.length:Int))),(19,.int .i64 (fun _=>(s.1:Int)))],tHl v r D p i l++[(13,.arr 3 (fun _=>enc cq s.2))]⟩)
  (fun s=>s.1<=D.nb.length/\s.2.length=r/\E=fC v r l (D.nb.drop s.1) s.1 s.2) (fun s=>D.nb.length-s.1)
  (0,List.replicate r 0) ⟨by omega,by simp,by rw[<-hE];rfl⟩ (.le okZ (by cbv;repeat' first|exact trivial|exact lR|exact zB rfl|exact⟨rfl⟩|exact zB (by show List.replicate (Int.toNat _) _=_;exact d7 _)|apply zN) rfl) ?_
 intro s hs;obtain⟨j,o⟩:=s;obtain⟨g1,g2,g3⟩:=hs;dsimp only at g1 g2 g3;cbv;refine zD (fun h=>?_) (fun h=>?_)
 ·have hj:j<D.nb.length:=om;obtain⟨y,hyj⟩:=zO hj;have hyl:=hy y (zZ hyj);obtain⟨c,hc⟩:=zO (show j<l.length by omega);have hd:D.nb.drop j=y::D.nb.drop (j+1):=by rw[c7 hj];congr 1;rw[wN hj] at hyj;exact vC hyj
  (rw[hd,fC,getD_some hc] at g3;obtain⟨C,hC⟩:∃ C,zJ c=C:=⟨_,rfl⟩;have hle:j+1<=D.nb.length:=hj;have hmu:D.nb.length-(j+1)<D.nb.length-j:=by omega);cbv
  refine⟨zQ om om,?_⟩;refine aN hyj om ?_;cbv;refine⟨zC om om,?_⟩;cbv;refine yD (fun h1=>?_) (fun h1=>?_)
  rotate_left
  {cbv;refine⟨zC om om,?_⟩;cbv;exact⟨(j+1,o),⟨hle,g2,g3.trans (by rw[if_neg (fun q=>h1 (by have:=q.1;(try dsimp only [zI] at *);omega))])⟩,hmu,wkW⟩};cbv;refine zD (fun h2=>?_) (fun h2=>?_)
  ·(have hyv:v<=y:=by (try dsimp only [zI] at *);omega);have hk:y-v<r:=by (try dsimp only [zI] at *);omega
   obtain⟨x,hx⟩:=zO (show y-v<o.length by omega);obtain⟨X,hX⟩:∃ X,zJ x=X:=⟨_,rfl⟩;cbv;refine⟨zQ om om,?_⟩;refine dK hc om hC ?_;cbv;refine⟨zQ om om,?_⟩;refine dK hx om hX ?_;cbv;refine⟨zC om om,?_⟩;cbv;exact⟨(j+1,o.set (y-v) c),⟨hle,by rw[kD];exact g2,g3.trans (by rw[if_pos ⟨hyv,hk⟩])⟩,hmu,.le okZ (by cbv;repeat' first|exact trivial|exact lR|exact zB rfl|exact⟨rfl⟩|exact zB (by show (enc cq o).set (0+Int.toNat _) _=enc cq (o.set (y-v) c);rw[xA,show Int.toNat ((y:Int)-(v:Int))=y-v by omega];exact p7 hC)|apply zN) rfl⟩
  {cbv;refine⟨zC om om,?_⟩;cbv;exact⟨(j+1,o),⟨hle,g2,g3.trans (by rw[if_neg (fun q=>h2 (by have:=q.2;have:=q.1;(try dsimp only [zI] at *);omega))])⟩,hmu,wkW⟩}
 ·(have hj:j=D.nb.length:=by (try dsimp only [zI] at *);omega);have hEo:o=E:=by rw[g3,hj,vG];rfl
  subst hEo;cbv;refine jF (.trans (wkW (ps':=⟨[(4,.osl 13 3 (fun _=>0) (fun _=>r))],tHl v r D p i l++[(13,.arr 3 (fun _=>enc cq o))]⟩)) (.frz 13 rfl rfl (by cbv;repeat' first|exact trivial|exact yG (by rw[zK];omega)|apply zN) (by cbv;repeat' first|exact trivial|apply zN))) rfl okR (by rfl) okR ?_;refine zY ?_;show ((enc cq o).drop 0).take r=enc cq o;rw[uS,yN (by rw[zK];omega)]
theorem zDK (v r:Nat)(D:Dic)(p:Nat)(hw:D.wf)(hn:D.nb.length<2^40)(hb:D.bs.length<2^40)(hv:v<2^40):Sound 52 [.ptr 1000000 0] (tO v r D p) [] (.sl (fun _=>enc cq (pnt v D))) (tO v r D p) []:=by
 refine sF Tryz.f52 ?_;have hlf:=hw.len;obtain⟨E,hE⟩:∃ E,pnt v D=E:=⟨_,rfl⟩;rw[hE];cbv;refine⟨yB om om,vF om om,?_⟩;refine zX (σ:=Nat×List Rat) (fun s=>⟨[(0,.ptr 1000000 0),(3,.osl 10 3 (fun _=>0) (fun _=>v)),(14,.osl 1000001 1 (fun _=>0) (fun _=>D.bs.length)),(15,.int .i64 (fun _=>(D.bs.length:Int))),(16,.int .i64 (fun _=>(s.1:Int)))],tO v r D p++[(10,.arr 3 (fun _=>enc cq s.2))]⟩)
  (fun s=>s.1<=D.bs.length/\s.2.length=v/\E=sC v D.cst (D.bs.drop s.1) s.1 s.2) (fun s=>D.bs.length-s.1)
  (0,List.replicate v 0) ⟨by omega,by simp,by rw[<-hE];rfl⟩ (.le okZ (by cbv;repeat' first|exact trivial|exact lR|exact zB rfl|exact⟨rfl⟩|exact zB (by show List.replicate (Int.toNat _) _=_;exact d7 _)|apply zN) rfl) ?_
 intro s hs;obtain⟨i,o⟩:=s;obtain⟨g1,g2,g3⟩:=hs;dsimp only at g1 g2 g3;cbv;refine zD (fun h=>?_) (fun h=>?_)
 ·have hi:i<D.bs.length:=om;obtain⟨y,hy⟩:=zO hi;have hd:D.bs.drop i=y::D.bs.drop (i+1):=by rw[c7 hi];congr 1;rw[wN hi] at hy;exact vC hy
  (rw[hd,sC] at g3;obtain⟨c,hc⟩:∃ c,D.cst i=c:=⟨_,rfl⟩;rw[hc] at g3;obtain⟨C,hC⟩:∃ C,zJ c=C:=⟨_,rfl⟩;have cfr:=d9 v r D p y;have cco:=zDM v r D p i hw oM hn;rw[hc,hC] at cco;have hle:i+1<=D.bs.length:=hi;have hmu:D.bs.length-(i+1)<D.bs.length-i:=by omega);cbv
  refine⟨zQ om om,?_⟩;refine aN hy om ?_;cbv;refine yU id (.refl _) rfl okA cfr okR rfl rfl rfl rfl rfl rfl rfl rfl ?_;cbv;refine zD (fun h1=>?_) (fun h1=>?_)
  ·(have hyv:y<v:=by (try dsimp only [zI] at *);omega);obtain⟨x,hx⟩:=zO (show y<o.length by omega)
   obtain⟨X,hX⟩:∃ X,zJ x=X:=⟨_,rfl⟩;cbv;refine yU id (.refl _) rfl okA cco okR rfl rfl rfl rfl rfl rfl rfl rfl ?_;cbv;refine⟨zQ om om,?_⟩;refine dK hx om hX ?_;cbv;refine⟨zC om om,?_⟩;cbv;exact⟨(i+1,o.set y c),⟨hle,by rw[kD];exact g2,g3.trans (by rw[if_pos hyv])⟩,hmu,.le okZ (by cbv;repeat' first|exact trivial|exact lR|exact zB rfl|exact⟨rfl⟩|exact zB (by show (enc cq o).set (0+y) _=enc cq (o.set y c);rw[xA];exact p7 hC)|apply zN) rfl⟩
  {cbv;refine⟨zC om om,?_⟩;cbv;exact⟨(i+1,o),⟨hle,g2,g3.trans (by rw[if_neg (fun q=>h1 om)])⟩,hmu,wkW⟩}
 ·(have hi:i=D.bs.length:=by (try dsimp only [zI] at *);omega);have hEo:o=E:=by rw[g3,hi,vG];rfl
  subst hEo;cbv;refine jF (.trans (wkW (ps':=⟨[(2,.osl 10 3 (fun _=>0) (fun _=>v))],tO v r D p++[(10,.arr 3 (fun _=>enc cq o))]⟩)) (.frz 10 rfl rfl (by cbv;repeat' first|exact trivial|exact yG (by rw[zK];omega)|apply zN) (by cbv;repeat' first|exact trivial|apply zN))) rfl okR (by rfl) okR ?_;refine zY ?_;show ((enc cq o).drop 0).take v=enc cq o;rw[uS,yN (by rw[zK];omega)]
theorem zS6 (v r:Nat)(D:Dic)(p e:Nat)(k:Rat)(hw:D.wf)(he:e<D.nb.length)(hn:D.nb.length<2^40)(hb:D.bs.length<2^40)(hv:v<2^40)(hf:D.fit (2^32))(hk:Fits (2^32) k):Sound 53 [.ptr 1000000 0,.int .i64 (fun _=>(e:Int)),rv (zJ k)] (tO v r D p) [] (.sl (fun _=>enc cq (pE v D e k))) (tO v r D p) []:=by
 refine sF Tryz.f53 ?_;have hlf:=hw.len;obtain⟨E,hE⟩:∃ E,pE v D e k=E:=⟨_,rfl⟩;obtain⟨w,hwe⟩:=zO he;obtain⟨K,hK⟩:∃ K,zJ k=K:=⟨_,rfl⟩;have szK:K.sz (2^32):=by rw[<-hK];exact yF hk
 have qK:K.q=k:=by rw[<-hK];exact yY k
 have cfw:=d9 v r D p w;unfold pE at hE;rw[getD_some hwe] at hE;rw[hK];obtain⟨O0,hO0⟩:∃ O0,(if w<v then (List.replicate v 0).set w k else List.replicate v (0:Rat))=O0:=⟨_,rfl⟩;rw[hO0] at hE;have hO0l:O0.length=v:=by rw[<-hO0];split <;> simp
 rw[show pE v D e k=E from by unfold pE;rw[getD_some hwe,hO0];exact hE];cbv;refine⟨yB om om,vF om om,?_⟩;refine⟨zQ om om,?_⟩;refine aN hwe om ?_;cbv;refine yU id (.refl _) rfl okA cfw okR rfl rfl rfl rfl rfl rfl rfl rfl ?_;cbv;refine gI (σ:=Unit) (fun _=>⟨[(0,.ptr 1000000 0),(1,.int .i64 (fun _=>(e:Int))),(5,.ptr 5 0),(7,.osl 15 3 (fun _=>0) (fun _=>v))],tO v r D p++[(5,.box (cR K)),(15,.arr 3 (fun _=>enc cq O0))]⟩) (fun _=>True) (fun h=>?_) (fun h=>?_) ?_
 ·(have hwv:w<v:=by (try dsimp only [zI] at *);omega);obtain⟨Z,hZ⟩:∃ Z,zJ 0=Z:=⟨_,rfl⟩
  (have hrep:(List.replicate v (0:Rat))[w]?=some 0:=by rw[gC,if_pos hwv]);cbv
  refine⟨zQ om om,?_⟩;refine zGY (d7 _) hrep om hZ ?_;cbv;refine⟨(),trivial,.le okZ (by cbv;repeat' first|exact trivial|exact lR|exact zB rfl|exact⟨rfl⟩|exact zB (by show (List.replicate (Int.toNat _) _).set (0+w) _=enc cq O0;rw[xA,<-hO0,if_pos hwv];exact zO6 hK)|apply zN) rfl⟩
 ·(have hwv:¬w<v:=by (try dsimp only [zI] at *);omega);cbv
  refine⟨(),trivial,.le okZ (by cbv;repeat' first|exact trivial|exact lR|exact zB rfl|exact⟨rfl⟩|exact zB (by show List.replicate (Int.toNat _) _=enc cq O0;rw[<-hO0,if_neg hwv];exact d7 _)|apply zN) rfl⟩
 intro _ _;cbv;refine zX (σ:=Nat×List Rat) (fun s=>⟨[(0,.ptr 1000000 0),(1,.int .i64 (fun _=>(e:Int))),(5,.ptr 5 0),(7,.osl 15 3 (fun _=>0) (fun _=>v)),(33,.osl 1000001 1 (fun _=>0) (fun _=>D.bs.length)),(34,.int .i64 (fun _=>(D.bs.length:Int))),(35,.int .i64 (fun _=>(s.1:Int)))],tO v r D p++[(5,.box (cR K)),(15,.arr 3 (fun _=>enc cq s.2))]⟩)
  (fun s=>s.1<=D.bs.length/\s.2.length=v/\E=sC v (fun i=>k*D.at i e) (D.bs.drop s.1) s.1 s.2) (fun s=>D.bs.length-s.1)
  (0,O0) ⟨by omega,hO0l,by rw[<-hE];rfl⟩ (wkW) ?_
 intro s hs;obtain⟨i,o⟩:=s;obtain⟨g1,g2,g3⟩:=hs;dsimp only at g1 g2 g3;cbv;refine zD (fun h=>?_) (fun h=>?_)
 ·have hi:i<D.bs.length:=om;obtain⟨y,hy⟩:=zO hi;have hd:D.bs.drop i=y::D.bs.drop (i+1):=by rw[c7 hi];congr 1;rw[wN hi] at hy;exact vC hy
  (rw[hd,sC] at g3;obtain⟨l,hl⟩:=zO (show i<D.fs.length by omega);have hll:=hw.row i l hl;have hgl:D.fs.getD i []=l:=getD_some hl;have hrow:=gS D.fs i;have hsame:=i9 D.fs i;rw[hgl] at hrow hsame;obtain⟨a,ha⟩:=zO (show e<l.length by omega);have hat:D.at i e=a:=by unfold Dic.at;rw[hgl,getD_some ha]);have fl:=hf.fs l (zZ hl)
  (have fa:Fits (2^32) a:=fl a (zZ ha);obtain⟨A,hA⟩:∃ A,zJ a=A:=⟨_,rfl⟩;have szA:A.sz (2^32):=by rw[<-hA];exact yF fa);have qA:A.q=a:=by rw[<-hA];exact yY a
  (rw[hat] at g3;obtain⟨c,hc⟩:∃ c,k*a=c:=⟨_,rfl⟩;rw[hc] at g3;obtain⟨C,hC⟩:∃ C,zJ c=C:=⟨_,rfl⟩;have cm:=s199 K A (szK.mono (by decide)) (szA.mono (by decide));rw[qK,qA,hc,hC] at cm;have cfr:=d9 v r D p y;have hle:i+1<=D.bs.length:=hi;have hmu:D.bs.length-(i+1)<D.bs.length-i:=by omega);cbv
  refine⟨zQ om om,?_⟩;refine aN hy om ?_;cbv;refine yU id (.refl _) rfl okA cfr okR rfl rfl rfl rfl rfl rfl rfl rfl ?_;cbv;refine zD (fun h1=>?_) (fun h1=>?_)
  ·(have hyv:y<v:=by (try dsimp only [zI] at *);omega);obtain⟨x,hx⟩:=zO (show y<o.length by omega)
   obtain⟨X,hX⟩:∃ X,zJ x=X:=⟨_,rfl⟩;cbv;refine mH 14 (.focus 1000003 31 (fun _=>i) rfl rfl (sU (by show i<(D.fs.map (enc cq)).length;rw[y8];omega))) (by cbv) ?_;cbv;refine⟨zQ om om,?_⟩;refine rT om ?_;cbv;refine⟨zQ om (by show (e:Int)<(((D.fs.map (enc cq)).getD i []).length:Int);rw[hrow,zK];omega),?_⟩;refine zGY hrow ha om hA ?_;cbv;refine dA cm ?_;cbv;refine⟨zQ om om,?_⟩;refine dK hx om hX ?_;cbv;refine⟨zC om om,?_⟩;cbv;exact⟨(i+1,o.set y c),⟨hle,by rw[kD];exact g2,g3.trans (by rw[if_pos hyv])⟩,hmu,.trans (.unfocus 1000003 31 [] [] rfl rfl rfl ⟨rfl,rfl⟩) (.le okZ (by cbv;repeat' first|exact trivial|exact lR|exact zB rfl|exact⟨by show (D.fs.map (enc cq)).set i ((D.fs.map (enc cq)).getD i [])=D.fs.map (enc cq);rw[hrow];exact hsame⟩|exact zB (by show (enc cq o).set (0+y) _=enc cq (o.set y c);rw[xA];exact p7 hC)|apply zN) rfl)⟩
  {cbv;refine⟨zC om om,?_⟩;cbv;exact⟨(i+1,o),⟨hle,g2,g3.trans (by rw[if_neg (fun q=>h1 om)])⟩,hmu,wkW⟩}
 ·(have hi:i=D.bs.length:=by (try dsimp only [zI] at *);omega);have hEo:o=E:=by rw[g3,hi,vG];rfl
  subst hEo;cbv;refine jF (.trans (wkW (ps':=⟨[(6,.osl 15 3 (fun _=>0) (fun _=>v))],tO v r D p++[(15,.arr 3 (fun _=>enc cq o))]⟩)) (.frz 15 rfl rfl (by cbv;repeat' first|exact trivial|exact yG (by rw[zK];omega)|apply zN) (by cbv;repeat' first|exact trivial|apply zN))) rfl okR (by rfl) okR ?_;refine zY ?_;show ((enc cq o).drop 0).take v=enc cq o;rw[uS,yN (by rw[zK];omega)]
theorem wK {α:Type}{l:List α}{i:Nat}{x:α}(h:l[i]?=some x):l.drop i=x::l.drop (i+1):=by have hi:=(v4.1 h).1;rw[c7 hi];congr 1;rw[wN hi] at h;exact vC h
theorem zX8 (v r:Nat)(D:Dic)(p:Nat)(hw:D.wf)(hn:D.nb.length<2^30)(hb:D.bs.length<2^30)(hp:p<2^30)(hf:∀ E,Pvs D E->E.fit (2^30)):Sound 48 [.ptr 1000000 0] (tO v r D p) [] (.tup []) (tO v r (rel v D.nb 0 (D,p)).1 (rel v D.nb 0 (D,p)).2) []:=by
 refine sF Tryz.f48 ?_;obtain⟨⟨E,q'⟩,hE⟩:∃ E,rel v D.nb 0 (D,p)=E:=⟨_,rfl⟩;rw[hE];dsimp only;have ccl:=zVD (enc ci D.nb) (fun e he=>by unfold enc at he;obtain⟨x,_,rfl⟩:=yS.1 he;rfl) (by rw[zK];omega);rw[zK] at ccl;cbv;refine yU (fun n=>match nqb n 1000001 with|true=>1000002|false=>10) (.refl _) rfl okA ccl okR rfl rfl rfl rfl rfl rfl rfl rfl ?_;cbv;refine zX (σ:=Nat×Dic×Nat) (fun s=>⟨[(0,.ptr 1000000 0),(10,.osl 10 1 (fun _=>0) (fun _=>D.nb.length)),(11,.int .i64 (fun _=>(D.nb.length:Int))),(12,.int .i64 (fun _=>(s.1:Int)))],tO v r s.2.1 s.2.2++[(10,.arr 1 (fun _=>enc ci D.nb))]⟩)
  (fun s=>s.1<=D.nb.length/\Pvs D s.2.1/\s.2.2<=p+s.1/\(E,q')=rel v (D.nb.drop s.1) s.1 s.2) (fun s=>D.nb.length-s.1)
  (0,D,p) ⟨by omega,.refl,by show p<=p+0;omega,by rw[<-hE];rfl⟩ (wkW) ?_
 intro s hs;obtain⟨e,F,q⟩:=s;obtain⟨g1,g2,g3,g4⟩:=hs;dsimp only at g1 g2 g3 g4;have hFw:=g2.wf hw;have hFl:=g2.len;have hff:=hf F g2;have hlf:=hFw.len;cbv;refine zD (fun h=>?_) (fun h=>?_)
 ·(have he:e<D.nb.length:=om;obtain⟨y,hy⟩:=zO he;rw[wK hy,rel] at g4;have cfr:=d9 v r F q y;have hle:e+1<=D.nb.length:=he;have hmu:D.nb.length-(e+1)<D.nb.length-e:=by omega);cbv
  refine⟨zQ om om,?_⟩;refine aN hy om ?_;cbv;refine yU id (.refl _) rfl okA cfr okR rfl rfl rfl rfl rfl rfl rfl rfl ?_;cbv;refine zD (fun h1=>?_) (fun h1=>?_)
  rotate_left
  {cbv;refine⟨zC om om,?_⟩;cbv;exact⟨(e+1,F,q),⟨hle,g2,by show q<=p+(e+1);omega,g4.trans (by rw[if_neg (fun k=>h1 om)])⟩,hmu,wkW⟩}
  (have hyv:y<v:=by (try dsimp only [zI] at *);omega);rw[if_pos hyv] at g4
  unfold relS at g4;cbv;refine zX (σ:=Nat) (fun i=>⟨[(0,.ptr 1000000 0),(2,.int .i64 (fun _=>(e:Int))),(10,.osl 10 1 (fun _=>0) (fun _=>D.nb.length)),(11,.int .i64 (fun _=>(D.nb.length:Int))),(12,.int .i64 (fun _=>(e:Int))),(24,.osl 1000001 1 (fun _=>0) (fun _=>F.bs.length)),(25,.int .i64 (fun _=>(F.bs.length:Int))),(26,.int .i64 (fun _=>(i:Int)))],tO v r F q++[(10,.arr 1 (fun _=>enc ci D.nb))]⟩)
   (fun i=>i<=F.bs.length/\lB v e F F.bs 0=lB v e F (F.bs.drop i) i) (fun i=>F.bs.length-i)
   0 ⟨by omega,rfl⟩ (wkW) ?_
  intro i hi0;obtain⟨k1,k2⟩:=hi0;cbv;refine zD (fun hh=>?_) (fun hh=>?_)
  ·(have hi:i<F.bs.length:=om;obtain⟨b,hbi⟩:=zO hi;obtain⟨l,hl⟩:=zO (show i<F.fs.length by omega);have hll:=hFw.row i l hl;have hgl:F.fs.getD i []=l:=getD_some hl;have hrow:=gS F.fs i;have hsame:=i9 F.fs i;rw[hgl] at hrow hsame;obtain⟨a,ha⟩:=zO (show e<l.length by omega);have hat:F.at i e=a:=by unfold Dic.at;rw[hgl,getD_some ha]);rw[wK hbi,lB,hat] at k2
   (have fl:=hff.fs l (zZ hl);have fa:Fits (2^30) a:=fl a (zZ ha);obtain⟨A,hA⟩:∃ A,zJ a=A:=⟨_,rfl⟩;have szA:A.sz (2^30):=by rw[<-hA];exact yF fa);have qA:A.q=a:=by rw[<-hA];exact yY a
   (have csa:=s86 A (by have:=szA.n;omega);rw[qA] at csa;have hz:xF a=0↔a=0:=dR;have cfb:=d9 v r F q b;have hle2:i+1<=F.bs.length:=hi;have hmu2:F.bs.length-(i+1)<F.bs.length-i:=by omega);generalize xF a=sa at *
   cbv;refine⟨zQ om om,?_⟩;refine aN hbi om ?_;cbv;refine yU id (.refl _) rfl okA cfb okR rfl rfl rfl rfl rfl rfl rfl rfl ?_;cbv;refine yD (fun h2=>?_) (fun h2=>?_);{cbv;refine⟨zC om om,?_⟩;cbv;exact⟨i+1,⟨hle2,k2.trans (by rw[if_neg (fun k=>by have:=k.1;(try dsimp only [zI] at *);omega)])⟩,hmu2,wkW⟩};cbv;refine⟨zQ om om,?_⟩;refine⟨_,.focus 1000003 31 (fun _=>i) rfl rfl (sU (by show i<(F.fs.map (enc cq)).length;rw[y8];omega)),?_⟩;cbv;refine rT om ?_;cbv;refine⟨zQ om (by show (e:Int)<(((F.fs.map (enc cq)).getD i []).length:Int);rw[hrow,zK];omega),?_⟩;refine zGY hrow ha om hA ?_;cbv;refine cA csa ?_;cbv;refine zD (fun h3=>?_) (fun h3=>?_);{cbv;refine⟨zC om om,?_⟩;cbv;exact⟨i+1,⟨hle2,k2.trans (by rw[if_neg (fun k=>k.2 (hz.1 h3))])⟩,hmu2,(.trans (.unfocus 1000003 31 [] [] rfl rfl rfl ⟨rfl,rfl⟩) (.le okZ (by cbv;repeat' first|exact trivial|exact lR|exact zB rfl|exact⟨by show (F.fs.map (enc cq)).set i ((F.fs.map (enc cq)).getD i [])=F.fs.map (enc cq);rw[hrow];exact hsame⟩|exact zE om|apply zN) rfl))⟩}
   ·have ha0:a≠0:=fun k=>h3 (hz.2 k);have hR:=k2.trans (if_pos ⟨by (try dsimp only [zI] at *);omega,ha0⟩);rw[hR] at g4;dsimp only at g4;have hpv:Pvs D (F.piv i e):=.step g2 hi oM (by rw[hat];exact ha0);have cpv:=rF v r F q i e hFw hi oM (by rw[hat];exact ha0) oM oM oM hff;generalize F.piv i e=F' at *
    cbv;refine yU (ps':=⟨[(0,.ptr 1000000 0),(10,.osl 10 1 (fun _=>0) (fun _=>D.nb.length)),(11,.int .i64 (fun _=>(D.nb.length:Int))),(12,.int .i64 (fun _=>(e:Int))),(49,.ptr 1000000 0),(50,.int .i64 (fun _=>(i:Int))),(51,.int .i64 (fun _=>(e:Int)))],tO v r F q++[(10,.arr 1 (fun _=>enc ci D.nb))]⟩) id (.trans (.unfocus 1000003 31 [] [] rfl rfl rfl ⟨rfl,rfl⟩) (.le okZ (by cbv;repeat' first|exact trivial|exact lR|exact zB rfl|exact⟨by show (F.fs.map (enc cq)).set i ((F.fs.map (enc cq)).getD i [])=F.fs.map (enc cq);rw[hrow];exact hsame⟩|exact zE om|apply zN) rfl)) rfl okA cpv okR rfl rfl rfl rfl rfl rfl rfl rfl ?_;cbv;refine⟨zC om om,?_⟩;cbv;exact⟨(e+1,F',q+1),⟨hle,hpv,by show q+1<=p+(e+1);omega,g4⟩,hmu,wkW⟩
  ·(have hi:i=F.bs.length:=by (try dsimp only [zI] at *);omega);have hR:lB v e F F.bs 0=none:=by rw[k2,hi,vG];rfl
   rw[hR] at g4;cbv;refine⟨zC om om,?_⟩;cbv;exact⟨(e+1,F,q),⟨hle,g2,by show q<=p+(e+1);omega,g4⟩,hmu,wkW⟩
 ·(have he:e=D.nb.length:=by (try dsimp only [zI] at *);omega);have hEq:(E,q')=(F,q):=by rw[g4,he,vG];rfl
  cases hEq;cbv;refine jF (ps':=⟨[],tO v r E q'⟩) (wkW) rfl okR (by rfl) okR ?_;exact trivial
theorem zZ1 (v r:Nat)(D:Dic)(p:Nat):Sound 56 [.ptr 1000006 0] (tO v r D p++[(1000006,.box [.ptr 1000000 0])]) [] (.osl 1000004 3 (fun _=>0) (fun _=>D.ob.length)) (tO v r D p++[(1000006,.box [.ptr 1000000 0])]) []:=by refine sF Tryz.f56 ?_;cbv;refine jF (.refl _) rfl okR (by rfl) okR ?_;exact lR
def vO (v r:Nat) (D:Dic) (p a:Nat) (u:List Rat):List (Nat×Obj') :=
 tO v r D p++[(1000006,.box [.ptr 1000000 0]),(1000007,.box [.int .i64 (fun _=>(a:Int))]),(1000008,.box [.osl 1000009 3 (fun _=>0) (fun _=>u.length)]),(1000009,.arr 3 (fun _=>enc cq u))]
def vH (v r : Nat) (D : Dic) (p a : Nat) (u : List Rat) (i : Nat) (l : List Rat) : List (Nat × Obj') :=
  [(1000000, .box [.int .i64 (fun _ => (v : Int)), .int .i64 (fun _ => (r : Int)), .osl 1000001 1 (fun _ => 0) (fun _ => D.bs.length), .osl 1000002 1 (fun _ => 0) (fun _ => D.nb.length), .osl 1000003 1 (fun _ => 0) (fun _ => D.fs.length), .osl 1000004 3 (fun _ => 0) (fun _ => D.ob.length), .int .i64 (fun _ => (p : Int))]),
   (1000001, .arr 1 (fun _ => enc ci D.bs)), (1000002, .arr 1 (fun _ => enc ci D.nb)), (1000003, .mat 3 (fun _ => D.fs.map (enc cq)) [(.osl 5 3 (fun _ => 0) (fun _ => l.length), fun _ => i)]), (1000004, .arr 3 (fun _ => enc cq D.ob)),
   (1000006, .box [.ptr 1000000 0]), (1000007, .box [.int .i64 (fun _ => (a : Int))]), (1000008, .box [.osl 1000009 3 (fun _ => 0) (fun _ => u.length)]), (1000009, .arr 3 (fun _ => enc cq u))]
theorem zOI:Pg.funcs[90]?=some Tryz.f90:=by rw[vJ];rfl
theorem zNZ (v r : Nat) (D : Dic) (p a : Nat) (u l : List Rat) (i : Nat) (hw : D.wf) (hb : D.bs.length < 2^40) (hi : uG D.bs a = (i : Int)) (hl : D.fs[i]? = some l) :
    Sound 90 [.ptr 1000006 0, .ptr 1000007 0, .ptr 1000008 0] (vO v r D p a u) [] (.osl 5 3 (fun _ => 0) (fun _ => l.length)) (vH v r D p a u i l) [(5, .arr 3 (fun _ => enc cq l))] := by
  refine yW zOI rfl rfl rfl rfl rfl ?_
  have hgl : D.fs.getD i [] = l := getD_some hl
  have hil := yO hl
  have hrow := gS D.fs i
  rw [hgl] at hrow
  have cix := lT D.bs a hb
  rw [hi] at cix
  cbv
  refine zT 6 (by cbv) ?_
  cbv
  refine uE id okA cix okR rfl rfl rfl rfl rfl rfl ?_
  cbv
  refine nR om ?_
  cbv
  refine ⟨zQ om om, ?_⟩
  refine ⟨_, .focus 1000003 31 (fun _ => i) rfl rfl (sU (by show i < (D.fs.map (enc cq)).length; rw [y8]; exact hil)), ?_⟩
  cbv
  refine rT om ?_
  cbv
  have hril : ((D.fs.map (enc cq)).getD i []).length = l.length := by rw [hrow, zK]
  refine j6 (ps' := ⟨[(3, .osl 31 3 (fun _ => 0) (fun _ => l.length))], [(1000000, .box [.int .i64 (fun _ => (v : Int)), .int .i64 (fun _ => (r : Int)), .osl 1000001 1 (fun _ => 0) (fun _ => D.bs.length), .osl 1000002 1 (fun _ => 0) (fun _ => D.nb.length), .osl 1000003 1 (fun _ => 0) (fun _ => D.fs.length), .osl 1000004 3 (fun _ => 0) (fun _ => D.ob.length), .int .i64 (fun _ => (p : Int))]),
   (1000001, .arr 1 (fun _ => enc ci D.bs)), (1000002, .arr 1 (fun _ => enc ci D.nb)), (1000003, .mat 3 (fun _ => D.fs.map (enc cq)) [(.osl 31 3 (fun _ => 0) (fun _ => l.length), fun _ => i)]), (1000004, .arr 3 (fun _ => enc cq D.ob)),
   (1000006, .box [.ptr 1000000 0]), (1000007, .box [.int .i64 (fun _ => (a : Int))]), (1000008, .box [.osl 1000009 3 (fun _ => 0) (fun _ => u.length)]), (1000009, .arr 3 (fun _ => enc cq u)), (31, .arr 3 (fun _ => enc cq l))]⟩) hnM1
    (.le (by cbv; repeat' first | exact trivial | exact lR | exact zU rfl hril | apply zN) (by
      cbv
      repeat' first | exact trivial | exact lR | exact zB rfl | exact ⟨rfl⟩ | exact zU rfl hril | exact zB hrow | apply zN) rfl) rfl okR (by rfl) okR ?_
  exact lR
theorem zNY (v r:Nat)(D:Dic)(p a:Nat)(u:List Rat)(j:Nat)(hb:D.bs.length<2^40)(hn:D.nb.length<2^40)(hul:u.length<2^40)(hi:uG D.bs a<0)(hj:uG D.nb a=(j:Int))(hju:j<u.length):Sound 90 [.ptr 1000006 0,.ptr 1000007 0,.ptr 1000008 0] (vO v r D p a u) [] (.osl 5 3 (fun _=>0) (fun _=>u.length)) (vO v r D p a u) [(5,.arr 3 (fun _=>enc cq (u.set j 1)))]:=by
 refine yW zOI rfl rfl rfl rfl rfl ?_;have cix:=lT D.bs a hb;have cjx:=lT D.nb a hn;rw[hj] at cjx;obtain⟨ib,hib⟩:∃ ib,uG D.bs a=ib:=⟨_,rfl⟩;rw[hib] at cix hi;have ccl:=zVC (enc cq u) (fun e he=>by unfold enc at he;obtain⟨x,_,rfl⟩:=yS.1 he;rfl) (by rw[zK];omega);rw[zK] at ccl;obtain⟨x,hx⟩:=zO hju;obtain⟨X,hX⟩:∃ X,zJ x=X:=⟨_,rfl⟩;obtain⟨U,hU⟩:∃ U,zJ ((1:Int):Rat)=U:=⟨_,rfl⟩;have c1:=s104 1 (by decide) (by decide);rw[hU] at c1;have hU1:zJ (1:Rat)=U:=hU;cbv;refine zT 6 (by cbv) ?_;cbv;refine uE id okA cix okR rfl rfl rfl rfl rfl rfl ?_;cbv;refine cW om ?_;cbv;refine yU (fun n=>match nqb n 1000001 with|true=>1000009|false=>22) (.refl _) rfl okA ccl okR rfl rfl rfl rfl rfl rfl rfl rfl ?_;cbv;refine zT 8 (by cbv) ?_;cbv;refine uE (fun n=>match nqb n 1000001 with|true=>1000002|false=>n) okA cjx okR rfl rfl rfl rfl rfl rfl ?_;cbv;refine dA c1 ?_;cbv;refine⟨zQ om om,?_⟩;refine dK hx om hX ?_;cbv;refine j6 (ps':=⟨[(3,.osl 22 3 (fun _=>0) (fun _=>u.length))],vO v r D p a u++[(22,.arr 3 (fun _=>enc cq (u.set j 1)))]⟩) (fun n=>match nqb n 5 with|true=>22|false=>n)
  (.le okZ (by
   cbv
   repeat' first|exact trivial|exact lR|exact zB rfl|exact⟨rfl⟩|exact zB (by show (enc cq u).set (0+j) _=enc cq (u.set j 1);rw[xA];exact p7 hU1)|apply zN) rfl) rfl okR (by rfl) okR ?_
 exact lR
theorem zOJ:Pg.funcs[55]?=some Tryz.f55:=by rw[vJ];rfl
theorem zU9 (v r:Nat)(D:Dic)(p:Nat)(hw:D.wf)(hn:D.nb.length<2^30)(hb:D.bs.length<2^30)(hp:p<2^30)(hf:∀ E,Pvs D E->E.fit (2^30)):Sound 55 [.ptr 1000000 0,.fn 56 [.ptr 1000006 0]] (tO v r D p++[(1000006,.box [.ptr 1000000 0])]) [] (.tup [.int .i64 (fun _=>(qG v Dic.ob (65537-p) D p).2.2.1),.bool (fun _=>(qG v Dic.ob (65537-p) D p).2.2.2)]) (tO v r (qG v Dic.ob (65537-p) D p).1 (qG v Dic.ob (65537-p) D p).2.1++[(1000006,.box [.ptr 1000000 0])]) []:=by
 refine yW zOJ rfl rfl rfl rfl rfl ?_;obtain⟨⟨E,q',c,ok⟩,hE⟩:∃ E,qG v Dic.ob (65537-p) D p=E:=⟨_,rfl⟩;rw[hE];dsimp only;cbv;refine zX (σ:=Dic×Nat) (fun s=>⟨[(0,.ptr 1000000 0),(1,.fn 56 [.ptr 1000006 0])],tO v r s.1 s.2++[(1000006,.box [.ptr 1000000 0])]⟩)
  (fun s=>Pvs D s.1/\s.2<2^31/\(E,q',c,ok)=qG v Dic.ob (65537-s.2) s.1 s.2) (fun s=>65537-s.2)
  (D,p) ⟨.refl,by show p<2^31;omega,hE.symm⟩ (wkW) ?_
 intro s hs;obtain⟨F,q⟩:=s;obtain⟨g2,g3,g4⟩:=hs;dsimp only at g2 g3 g4;have hFw:=g2.wf hw;have hFl:=g2.len;have hff:=hf F g2;have hlf:=hFw.len;cbv;refine zD (fun h=>?_) (fun h=>?_)
 ·have hq:q<=65536:=om;rw[show 65537-q=(65536-q)+1 by omega,qG,if_pos hq] at g4;have cl1:=zZ1 v r F q;have cen:=zRI v r F q hFw.ob oM (hff.ob.mono (by decide));have hen:=nO (v:=v) (nb:=F.nb) (l:=F.ob);obtain⟨ee,hee⟩:∃ ee,ent v F.nb F.ob=ee:=⟨_,rfl⟩;rw[hee] at cen g4 hen;cbv;refine yU id (.refl _) rfl okA cl1 okR rfl rfl rfl rfl rfl rfl rfl rfl ?_;cbv;refine yU id (.refl _) rfl okA cen okR rfl rfl rfl rfl rfl rfl rfl rfl ?_;cbv;refine zD (fun h1=>?_) (fun h1=>?_);{rw[if_pos h1] at g4;cases g4;cbv;refine zT 6 (by cbv) ?_;cbv;refine jF (.refl _) rfl okR (by rfl) okR ?_;cbv;exact⟨lR,yX (decide_eq_true om),trivial⟩}
  ·rw[if_neg h1] at g4;obtain⟨e,rfl⟩:∃ e:Nat,ee=e:=⟨ee.toNat,by omega⟩;rw[xN] at g4 hen;have he:=hen oM;have clv:=zDL v r F q e hFw he.1 oM oM hff;have hlv:=zHJ (v:=v) (e:=e) (D:=F);obtain⟨rr,hrr⟩:∃ rr,lvR v e F=rr:=⟨_,rfl⟩;rw[hrr] at clv g4 hlv;cbv;refine yU id (.refl _) rfl okA clv okR rfl rfl rfl rfl rfl rfl rfl rfl ?_;cbv;refine zD (fun h2=>?_) (fun h2=>?_);{rw[if_pos h2] at g4;cases g4;cbv;refine jF (.refl _) rfl okR (by rfl) okR ?_;cbv;exact okA}
   ·(rw[if_neg h2] at g4;obtain⟨i,rfl⟩:∃ i:Nat,rr=i:=⟨rr.toNat,by omega⟩;rw[xN] at g4 hlv;have hi:=hlv oM;have hne:F.at i e≠0:=by have:=hi.2.2;grind);have hpv:Pvs D (F.piv i e):=.step g2 hi.1 he.1 hne
    have cpv:=rF v r F q i e hFw hi.1 he.1 hne oM oM oM hff;rw[show 65536-q=65537-(q+1) by omega] at g4;generalize F.piv i e=F' at *
    cbv;refine yU id (.refl _) rfl okA cpv okR rfl rfl rfl rfl rfl rfl rfl rfl ?_;cbv;exact⟨(F',q+1),⟨hpv,by show q+1<2^31;omega,g4⟩,by show 65537-(q+1)<65537-q;omega,wkW⟩
 {have hq:¬q<=65536:=om;rw[show 65537-q=0 by omega,qG] at g4;cases g4;cbv;refine zT 6 (by cbv) ?_;cbv;refine jF (.refl _) rfl okR (by rfl) okR ?_;cbv;exact⟨lR,yX (decide_eq_decide.2 ⟨fun w=>by omega,fun w=>by omega⟩),trivial⟩}
theorem zU8 (v r:Nat)(D:Dic)(p a:Nat)(u:List Rat)(hu:u=List.replicate (D.nb.length+1) 0)(ha:a∈D.bs\/a∈D.nb)(hw:D.wf)(hn:D.nb.length<2^30)(hb:D.bs.length<2^30)(hp:p<2^30)(hf:∀ E,Pvs D E->E.fit (2^30)):Sound 55 [.ptr 1000000 0,.fn 90 [.ptr 1000006 0,.ptr 1000007 0,.ptr 1000008 0]] (vO v r D p a u) [] (.tup [.int .i64 (fun _=>(qG v (vio a) (65537-p) D p).2.2.1),.bool (fun _=>(qG v (vio a) (65537-p) D p).2.2.2)]) (vO v r (qG v (vio a) (65537-p) D p).1 (qG v (vio a) (65537-p) D p).2.1 a u) []:=by
 refine yW zOJ rfl rfl rfl rfl rfl ?_;obtain⟨⟨E,q',c,ok⟩,hE⟩:∃ E,qG v (vio a) (65537-p) D p=E:=⟨_,rfl⟩;rw[hE];dsimp only;have hul:u.length=D.nb.length+1:=by rw[hu];simp
 cbv;refine zX (σ:=Dic×Nat) (fun s=>⟨[(0,.ptr 1000000 0),(1,.fn 90 [.ptr 1000006 0,.ptr 1000007 0,.ptr 1000008 0])],vO v r s.1 s.2 a u⟩)
  (fun s=>Pvs D s.1/\s.2<2^31/\(E,q',c,ok)=qG v (vio a) (65537-s.2) s.1 s.2) (fun s=>65537-s.2)
  (D,p) ⟨.refl,by show p<2^31;omega,hE.symm⟩ (wkW) ?_
 intro s hs;obtain⟨F,q⟩:=s;obtain⟨g2,g3,g4⟩:=hs;dsimp only at g2 g3 g4;have hFw:=g2.wf hw;have hFl:=g2.len;have hff:=hf F g2;have hlf:=hFw.len;have haF:a∈F.bs\/a∈F.nb:=((g2.same hw).vars a).2 ha;cbv;refine zD (fun h=>?_) (fun h=>?_)
 ·have hq:q<=65536:=om;rw[show 65537-q=(65536-q)+1 by omega,qG,if_pos hq] at g4;by_cases hbi:0<=uG F.bs a
  ·(obtain⟨i0,hi0⟩:∃ i0:Nat,uG F.bs a=i0:=⟨(uG F.bs a).toNat,by omega⟩;have hg:=yO (uM hbi);rw[hi0,xN] at hg;obtain⟨l,hl⟩:=zO (l:=F.fs) (i:=i0) oM;have hvio:vio a F=l:=by unfold vio;rw[if_pos hbi,hi0,xN,getD_some hl]);rw[hvio] at g4
   (have cl1:=zNZ v r F q a u l i0 hFw oM hi0 hl;have hll:=hFw.row i0 l hl;have cen:=zPQ v r F q i0 l hll oM ((hff.fs l (zZ hl)).mono (by decide));have hen:=nO (v:=v) (nb:=F.nb) (l:=l);have hrows:(F.fs.map (enc cq)).set i0 (enc cq l)=F.fs.map (enc cq):=by rw[map_set,cF hl]);obtain⟨ee,hee⟩:∃ ee,ent v F.nb l=ee:=⟨_,rfl⟩
   rw[hee] at cen g4 hen;cbv;refine yU hnM1 (.refl _) rfl okA cl1 okR rfl rfl rfl rfl rfl rfl rfl rfl ?_;cbv;refine yU hnM0 (.refl _) rfl okA cen okR rfl rfl rfl rfl rfl rfl rfl rfl ?_;cbv;refine zD (fun h1=>?_) (fun h1=>?_);{rw[if_pos h1] at g4;cases g4;cbv;refine zT 6 (by cbv) ?_;cbv;refine jF (ps':=⟨[(4,.int .i64 (fun _=>-1)),(5,.bool (fun _=>true))],vO v r E q' a u⟩) (.trans (.unfocus 1000003 31 [] [] rfl rfl rfl ⟨rfl,by show l.length=(enc cq l).length;rw[zK]⟩) (.le (by cbv;repeat' first|exact trivial|exact lR|exact yX (decide_eq_true om)|apply zN) (by cbv;repeat' first|exact trivial|exact lR|exact zB rfl|exact⟨hrows⟩|apply zN) rfl)) rfl okR (by rfl) okR ?_;cbv;exact okA}
   ·rw[if_neg h1] at g4;obtain⟨e,rfl⟩:∃ e:Nat,ee=e:=⟨ee.toNat,by omega⟩;rw[xN] at g4 hen;have he:=hen oM;have clv:=zDL v r F q e hFw he.1 oM oM hff;have hlv:=zHJ (v:=v) (e:=e) (D:=F);obtain⟨rr,hrr⟩:∃ rr,lvR v e F=rr:=⟨_,rfl⟩;rw[hrr] at clv g4 hlv;cbv;refine yU (ps':=⟨[(0,.ptr 1000000 0),(1,.fn 90 [.ptr 1000006 0,.ptr 1000007 0,.ptr 1000008 0]),(6,.int .i64 (fun _=>(e:Int))),(19,.ptr 1000000 0),(20,.int .i64 (fun _=>(e:Int)))],vO v r F q a u⟩) id (.trans (.unfocus 1000003 31 [] [] rfl rfl rfl ⟨rfl,by show l.length=(enc cq l).length;rw[zK]⟩) (.le okZ (by cbv;repeat' first|exact trivial|exact lR|exact zB rfl|exact⟨hrows⟩|apply zN) rfl)) rfl okA clv okR rfl rfl rfl rfl rfl rfl rfl rfl ?_;cbv;refine zD (fun h2=>?_) (fun h2=>?_);{rw[if_pos h2] at g4;cases g4;cbv;refine jF (.refl _) rfl okR (by rfl) okR ?_;cbv;exact okA}
    ·(rw[if_neg h2] at g4;obtain⟨i,rfl⟩:∃ i:Nat,rr=i:=⟨rr.toNat,by omega⟩;rw[xN] at g4 hlv;have hi:=hlv oM;have hne:F.at i e≠0:=by have:=hi.2.2;grind);have hpv:Pvs D (F.piv i e):=.step g2 hi.1 he.1 hne
     have cpv:=rF v r F q i e hFw hi.1 he.1 hne oM oM oM hff;rw[show 65536-q=65537-(q+1) by omega] at g4;generalize F.piv i e=F' at *
     cbv;refine yU id (.refl _) rfl okA cpv okR rfl rfl rfl rfl rfl rfl rfl rfl ?_;cbv;exact⟨(F',q+1),⟨hpv,by show q+1<2^31;omega,g4⟩,by show 65537-(q+1)<65537-q;omega,wkW⟩
  ·(have hbn:uG F.bs a<0:=by omega);have han:a∈F.nb:=haF.resolve_left fun w=>hbi (uL w)
   (have hjn:=uL han;obtain⟨j0,hj0⟩:∃ j0:Nat,uG F.nb a=j0:=⟨(uG F.nb a).toNat,by omega⟩;have hg:=yO (uM hjn);rw[hj0,xN] at hg;have hvio:vio a F=u.set j0 1:=by unfold vio;rw[if_neg hbi,hj0,xN,hFl.2,<-hu]);rw[hvio] at g4
   (have cl1:=zNY v r F q a u j0 oM oM oM hbn hj0 oM;obtain⟨l,hl⟩:∃ l,u.set j0 1=l:=⟨_,rfl⟩;rw[hl] at cl1 g4;have hll:l.length=F.nb.length+1:=by rw[<-hl,kD,hul,hFl.2]);have hlu:u.length=l.length:=by rw[hll,hul,hFl.2]
   (have hlfit:lfit (2^34) l:=fun x hx=>by rw[<-hl,hu] at hx;rcases zMQ hx with hx|hx;{rw[zQX hx];exact wD (by decide)};{rw[hx];exact fits_one.mono (by decide)});have cen:=zPP v r F q l hll oM hlfit;rw[hlu] at cl1;have hen:=nO (v:=v) (nb:=F.nb) (l:=l);obtain⟨ee,hee⟩:∃ ee,ent v F.nb l=ee:=⟨_,rfl⟩;rw[hee] at cen g4 hen;cbv;refine yU hnM1 (.refl _) rfl okA cl1 okR rfl rfl rfl rfl rfl rfl rfl rfl ?_;cbv;refine yU hnM0 (.refl _) rfl okA cen okR rfl rfl rfl rfl rfl rfl rfl rfl ?_;cbv;refine zD (fun h1=>?_) (fun h1=>?_)
   {rw[if_pos h1] at g4;cases g4;cbv;refine zT 6 (by cbv) ?_;cbv;refine jF (.refl _) rfl okR (by rfl) okR ?_;cbv;exact⟨lR,yX (decide_eq_true om),trivial⟩}
   ·rw[if_neg h1] at g4;obtain⟨e,rfl⟩:∃ e:Nat,ee=e:=⟨ee.toNat,by omega⟩;rw[xN] at g4 hen;have he:=hen oM;have clv:=zDL v r F q e hFw he.1 oM oM hff;have hlv:=zHJ (v:=v) (e:=e) (D:=F);obtain⟨rr,hrr⟩:∃ rr,lvR v e F=rr:=⟨_,rfl⟩;rw[hrr] at clv g4 hlv;cbv;refine yU (ps':=⟨[(0,.ptr 1000000 0),(1,.fn 90 [.ptr 1000006 0,.ptr 1000007 0,.ptr 1000008 0]),(6,.int .i64 (fun _=>(e:Int))),(19,.ptr 1000000 0),(20,.int .i64 (fun _=>(e:Int)))],vO v r F q a u⟩) id (wkW) rfl okA clv okR rfl rfl rfl rfl rfl rfl rfl rfl ?_;cbv;refine zD (fun h2=>?_) (fun h2=>?_);{rw[if_pos h2] at g4;cases g4;cbv;refine jF (.refl _) rfl okR (by rfl) okR ?_;cbv;exact okA}
    ·(rw[if_neg h2] at g4;obtain⟨i,rfl⟩:∃ i:Nat,rr=i:=⟨rr.toNat,by omega⟩;rw[xN] at g4 hlv;have hi:=hlv oM;have hne:F.at i e≠0:=by have:=hi.2.2;grind);have hpv:Pvs D (F.piv i e):=.step g2 hi.1 he.1 hne
     have cpv:=rF v r F q i e hFw hi.1 he.1 hne oM oM oM hff;rw[show 65536-q=65537-(q+1) by omega] at g4;generalize F.piv i e=F' at *
     cbv;refine yU id (.refl _) rfl okA cpv okR rfl rfl rfl rfl rfl rfl rfl rfl ?_;cbv;exact⟨(F',q+1),⟨hpv,by show q+1<2^31;omega,g4⟩,by show 65537-(q+1)<65537-q;omega,wkW⟩
 {have hq:¬q<=65536:=om;rw[show 65537-q=0 by omega,qG] at g4;cases g4;cbv;refine zT 6 (by cbv) ?_;cbv;refine jF (.refl _) rfl okR (by rfl) okR ?_;cbv;exact⟨lR,yX (decide_eq_decide.2 ⟨fun w=>by omega,fun w=>by omega⟩),trivial⟩}
end Go.Proofs.YtfainocfaddbdaaGreat
