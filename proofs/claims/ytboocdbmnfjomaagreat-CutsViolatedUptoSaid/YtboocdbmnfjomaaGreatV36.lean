/- A part of the proof: SyI, SyJ, SyK, SyL, SyM, SyN, SzA, SyO, SxN, SyQ, SxP. -/
import Derived.Test.YtboocdbmnfjomaaGreatV35
import Derived.Test.YtboocdbmnfjomaaGreatV34
import Derived.Test.YtboocdbmnfjomaaGreatV22
import Derived.Test.YtboocdbmnfjomaaGreatV32
import Derived.Test.YtboocdbmnfjomaaGreatV27
set_option linter.all false
namespace Go.Proofs.YtboocdbmnfjomaaGreat
open Go
set_option maxRecDepth 100000
set_option maxHeartbeats 4000000
def GT {n w:Nat}{k:Rat}{K:R}(h:zK k=K):(List.replicate n [D.bool false,D.sl [],D.sl []]).set w [D.bool K.neg,D.sl (lm K.num),D.sl (lm K.den)]=enc cq ((List.replicate n 0).set w k):=by rw[pN];exact lN h
def C6:Pg.funcs[173]?=some Tryz.f173:=by rw[vI];rfl
def AZ (v r:Nat)(D:Dic)(p:Nat)(hl:D.ob.length=D.nb.length+1)(hn:D.nb.length<2^40)(hr:r<2^40)(hv:v<2^40)(hy:∀ y,y∈D.nb->y<2^41):Sound 173 [.ptr 1000000 0,zT 1000004 3 D.ob.length] (tO v r D p) [] (.sl (λ_=>enc cq (BD v r D.nb D.ob))) (tO v r D p) []:=by
 refine xB C6 rfl rfl rfl rfl rfl ?_;obtain⟨E,hE⟩:=ex (BD v r D.nb D.ob);rw[hE];cbv;refine⟨zV om om,uU om om,?_⟩;refine zY (σ:=Nat×List Rat) (λs=>⟨[(0,.ptr 1000000 0),(1,zT 1000004 3 D.ob.length),(5,zT 13 3 r),(17,zT 1000002 1 D.nb.length),(18,iV D.nb.length),(19,iV s.1)],tO v r D p++[(13,zW 3 (enc cq s.2))]⟩)
  (λs=>s.1<=D.nb.length/\s.2.length=r/\E=Qm v r D.ob (D.nb.drop s.1) s.1 s.2) (λs=>D.nb.length-s.1)
  (0,List.replicate r 0) ⟨by omega,by simp,by rw[<-hE];rfl⟩ (.le okZ (by cbv;repeat' first|exact trivial|exact lR|exact zC rfl|exact⟨rfl⟩|exact zC (by show List.replicate (Int.toNat _) _=_;exact pN _)|apply And.intro) rfl) ?_
 intro s hs;obtain⟨j,o⟩:=s;obtain⟨g1,g2,g3⟩:=hs;dsimp only at g1 g2 g3;cbv;refine zG (λh=>?_) (λh=>?_)
 ·have hj:j<D.nb.length:=om;obtain⟨y,hyj⟩:=yZ hj;have hyl:=hy y (yE hyj);obtain⟨c,hc⟩:=yZ (show j<D.ob.length by omega);have hd:D.nb.drop j=y::D.nb.drop (j+1):=by rw[WW hj];congr 1;rw[uW hj] at hyj;exact qP hyj
  (rw[hd,Qm,getD_some hc] at g3;obtain⟨C,hC⟩:=ex (zK c);have hle:j+1<=D.nb.length:=hj;have hmu:D.nb.length-(j+1)<D.nb.length-j:=by omega);cbv
  refine⟨z9 om om,?_⟩;refine lI hyj om ?_;cbv;refine⟨zE om om,?_⟩;cbv;refine zX (λh1=>?_) (λh1=>?_)
  rotate_left
  {cbv;refine⟨zE om om,?_⟩;cbv;exact⟨(j+1,o),⟨hle,g2,g3.trans (by rw[if_neg (λq=>h1 (by have:=q.1;exact om))])⟩,hmu,wkW⟩};cbv;refine zG (λh2=>?_) (λh2=>?_)
  ·(have hyv:v<=y:=by exact om);have hk:y-v<r:=by exact om
   obtain⟨x,hx⟩:=yZ (show y-v<o.length by omega);obtain⟨X,hX⟩:=ex (zK x);cbv;refine⟨z9 om om,?_⟩;refine pH hc om hC ?_;cbv;refine⟨z9 om om,?_⟩;refine pH hx om hX ?_;cbv;refine⟨zE om om,?_⟩;cbv;exact⟨(j+1,o.set (y-v) c),⟨hle,by rw[dV];exact g2,g3.trans (by rw[if_pos ⟨hyv,hk⟩])⟩,hmu,.le okZ (by cbv;repeat' first|exact trivial|exact lR|exact zC rfl|exact⟨rfl⟩|exact zC (by show (enc cq o).set (0+Int.toNat _) _=enc cq (o.set (y-v) c);rw[wQ,show Int.toNat ((y:Int)-(v:Int))=y-v by omega];exact lN hC)|apply And.intro) rfl⟩
  {cbv;refine⟨zE om om,?_⟩;cbv;exact⟨(j+1,o),⟨hle,g2,g3.trans (by rw[if_neg (λq=>h2 (by have:=q.2;have:=q.1;exact om))])⟩,hmu,wkW⟩}
 ·(have hj:j=D.nb.length:=by exact om);have hEo:o=E:=by rw[g3,hj,vE];rfl
  subst hEo;cbv;refine tX (.trans (wkW (ps':=⟨[(4,zT 13 3 r)],tO v r D p++[(13,zW 3 (enc cq o))]⟩)) (.frz 13 rfl rfl (by cbv;repeat' first|exact trivial|exact z6 (by rw[zB];omega)|apply And.intro) (by cbv;repeat' first|exact trivial|apply And.intro))) rfl okR (by rfl) okR ?_;refine zU ?_;show ((enc cq o).drop 0).take r=enc cq o;rw[vS,yU (by rw[zB];omega)]
def Xk (v r:Nat)(D:Dic)(p:Nat)(hw:D.wf)(hn:D.nb.length<2^40)(hb:D.bs.length<2^40)(hv:v<2^40):Sound 168 [.ptr 1000000 0] (tO v r D p) [] (.sl (λ_=>enc cq (pnt v D))) (tO v r D p) []:=by
 refine sF Tryz.f168 ?_;have hlf:=hw.len;obtain⟨E,hE⟩:=ex (pnt v D);rw[hE];cbv;refine⟨zV om om,uU om om,?_⟩;refine zY (σ:=Nat×List Rat) (λs=>⟨[(0,.ptr 1000000 0),(3,zT 10 3 v),(14,zT 1000001 1 D.bs.length),(15,iV D.bs.length),(16,iV s.1)],tO v r D p++[(10,zW 3 (enc cq s.2))]⟩)
  (λs=>s.1<=D.bs.length/\s.2.length=v/\E=XA v D.cst (D.bs.drop s.1) s.1 s.2) (λs=>D.bs.length-s.1)
  (0,List.replicate v 0) ⟨by omega,by simp,by rw[<-hE];rfl⟩ (.le okZ (by cbv;repeat' first|exact trivial|exact lR|exact zC rfl|exact⟨rfl⟩|exact zC (by show List.replicate (Int.toNat _) _=_;exact pN _)|apply And.intro) rfl) ?_
 intro s hs;obtain⟨i,o⟩:=s;obtain⟨g1,g2,g3⟩:=hs;dsimp only at g1 g2 g3;cbv;refine zG (λh=>?_) (λh=>?_)
 ·have hi:i<D.bs.length:=om;obtain⟨y,hy⟩:=yZ hi;have hd:D.bs.drop i=y::D.bs.drop (i+1):=by rw[WW hi];congr 1;rw[uW hi] at hy;exact qP hy
  (rw[hd,XA] at g3;obtain⟨c,hc⟩:=ex (D.cst i);rw[hc] at g3;obtain⟨C,hC⟩:=ex (zK c);have cfr:=b9 v r D p y;have cco:=Q9 v r D p i hw oM hn;rw[hc,hC] at cco;have hle:i+1<=D.bs.length:=hi;have hmu:D.bs.length-(i+1)<D.bs.length-i:=by omega);cbv
  refine⟨z9 om om,?_⟩;refine lI hy om ?_;cbv;refine kA id cfr ?_;cbv;refine zG (λh1=>?_) (λh1=>?_)
  ·(have hyv:y<v:=by exact om);obtain⟨x,hx⟩:=yZ (show y<o.length by omega)
   obtain⟨X,hX⟩:=ex (zK x);cbv;refine kA id cco ?_;cbv;refine⟨z9 om om,?_⟩;refine pH hx om hX ?_;cbv;refine⟨zE om om,?_⟩;cbv;exact⟨(i+1,o.set y c),⟨hle,by rw[dV];exact g2,g3.trans (by rw[if_pos hyv])⟩,hmu,.le okZ (by cbv;repeat' first|exact trivial|exact lR|exact zC rfl|exact⟨rfl⟩|exact zC (by show (enc cq o).set (0+y) _=enc cq (o.set y c);rw[wQ];exact lN hC)|apply And.intro) rfl⟩
  {cbv;refine⟨zE om om,?_⟩;cbv;exact⟨(i+1,o),⟨hle,g2,g3.trans (by rw[if_neg (λq=>h1 (by exact om))])⟩,hmu,wkW⟩}
 ·(have hi:i=D.bs.length:=by exact om);have hEo:o=E:=by rw[g3,hi,vE];rfl
  subst hEo;cbv;refine tX (.trans (wkW (ps':=⟨[(2,zT 10 3 v)],tO v r D p++[(10,zW 3 (enc cq o))]⟩)) (.frz 10 rfl rfl (by cbv;repeat' first|exact trivial|exact z6 (by rw[zB];omega)|apply And.intro) (by cbv;repeat' first|exact trivial|apply And.intro))) rfl okR (by rfl) okR ?_;refine zU ?_;show ((enc cq o).drop 0).take v=enc cq o;rw[vS,yU (by rw[zB];omega)]
def DL (v r:Nat)(D:Dic)(p e:Nat)(k:Rat)(hw:D.wf)(he:e<D.nb.length)(hn:D.nb.length<2^40)(hb:D.bs.length<2^40)(hv:v<2^40)(hf:D.fit (2^32))(hk:Fits (2^32) k):Sound 169 [.ptr 1000000 0,iV e,rv (zK k)] (tO v r D p) [] (.sl (λ_=>enc cq (UL v D e k))) (tO v r D p) []:=by
 refine sF Tryz.f169 ?_;have hlf:=hw.len;obtain⟨E,hE⟩:=ex (UL v D e k);obtain⟨w,hwe⟩:=yZ he;obtain⟨K,hK⟩:=ex (zK k);have szK:K.sz (2^32):=by rw[<-hK];exact z5 hk
 have qK:K.q=k:=by rw[<-hK];exact yD k
 have cfw:=b9 v r D p w;unfold UL at hE;rw[getD_some hwe] at hE;rw[hK];obtain⟨O0,hO0⟩:∃ O0,(if w<v then (List.replicate v 0).set w k else List.replicate v (0:Rat))=O0:=⟨_,rfl⟩;rw[hO0] at hE;have hO0l:O0.length=v:=by rw[<-hO0];split <;> simp
 rw[show UL v D e k=E from by unfold UL;rw[getD_some hwe,hO0];exact hE];cbv;refine⟨zV om om,uU om om,?_⟩;refine⟨z9 om om,?_⟩;refine lI hwe om ?_;cbv;refine kA id cfw ?_;cbv;refine gK (σ:=Unit) (λ_=>⟨[(0,.ptr 1000000 0),(1,iV e),(5,.ptr 5 0),(7,zT 15 3 v)],tO v r D p++[(5,.box (cR K)),(15,zW 3 (enc cq O0))]⟩) (λ_=>True) (λh=>?_) (λh=>?_) ?_
 ·(have hwv:w<v:=by exact om);obtain⟨Z,hZ⟩:=ex (zK 0)
  (have hrep:(List.replicate v (0:Rat))[w]?=some 0:=by rw[QE,if_pos hwv]);cbv
  refine⟨z9 om om,?_⟩;refine Ws (pN _) hrep om hZ ?_;cbv;refine⟨(),trivial,.le okZ (by cbv;repeat' first|exact trivial|exact lR|exact zC rfl|exact⟨rfl⟩|exact zC (by show (List.replicate (Int.toNat _) _).set (0+w) _=enc cq O0;rw[wQ,<-hO0,if_pos hwv];exact GT hK)|apply And.intro) rfl⟩
 ·(have hwv:¬w<v:=by exact om);cbv
  refine⟨(),trivial,.le okZ (by cbv;repeat' first|exact trivial|exact lR|exact zC rfl|exact⟨rfl⟩|exact zC (by show List.replicate (Int.toNat _) _=enc cq O0;rw[<-hO0,if_neg hwv];exact pN _)|apply And.intro) rfl⟩
 intro _ _;cbv;refine zY (σ:=Nat×List Rat) (λs=>⟨[(0,.ptr 1000000 0),(1,iV e),(5,.ptr 5 0),(7,zT 15 3 v),(33,zT 1000001 1 D.bs.length),(34,iV D.bs.length),(35,iV s.1)],tO v r D p++[(5,.box (cR K)),(15,zW 3 (enc cq s.2))]⟩)
  (λs=>s.1<=D.bs.length/\s.2.length=v/\E=XA v (λi=>k*D.at i e) (D.bs.drop s.1) s.1 s.2) (λs=>D.bs.length-s.1)
  (0,O0) ⟨by omega,hO0l,by rw[<-hE];rfl⟩ (wkW) ?_
 intro s hs;obtain⟨i,o⟩:=s;obtain⟨g1,g2,g3⟩:=hs;dsimp only at g1 g2 g3;cbv;refine zG (λh=>?_) (λh=>?_)
 ·have hi:i<D.bs.length:=om;obtain⟨y,hy⟩:=yZ hi;have hd:D.bs.drop i=y::D.bs.drop (i+1):=by rw[WW hi];congr 1;rw[uW hi] at hy;exact qP hy
  (rw[hd,XA] at g3;obtain⟨l,hl⟩:=yZ (show i<D.fs.length by omega);have hll:=hw.row i l hl;have hgl:D.fs.getD i []=l:=getD_some hl;have hrow:=pY D.fs i;have hsame:=eU D.fs i;rw[hgl] at hrow hsame;obtain⟨a,ha⟩:=yZ (show e<l.length by omega);have hat:D.at i e=a:=by unfold Dic.at;rw[hgl,getD_some ha]);have fl:=hf.fs l (yE hl)
  (have fa:Fits (2^32) a:=fl a (yE ha);obtain⟨A,hA⟩:=ex (zK a);have szA:A.sz (2^32):=by rw[<-hA];exact z5 fa);have qA:A.q=a:=by rw[<-hA];exact yD a
  (rw[hat] at g3;obtain⟨c,hc⟩:=ex (k*a);rw[hc] at g3;obtain⟨C,hC⟩:=ex (zK c);have cm:=D8 K A (szK.mono (by decide)) (szA.mono (by decide));rw[qK,qA,hc,hC] at cm;have cfr:=b9 v r D p y;have hle:i+1<=D.bs.length:=hi;have hmu:D.bs.length-(i+1)<D.bs.length-i:=by omega);cbv
  refine⟨z9 om om,?_⟩;refine lI hy om ?_;cbv;refine kA id cfr ?_;cbv;refine zG (λh1=>?_) (λh1=>?_)
  ·(have hyv:y<v:=by exact om);obtain⟨x,hx⟩:=yZ (show y<o.length by omega)
   obtain⟨X,hX⟩:=ex (zK x);cbv;refine Wv 14 (.focus 1000003 31 (λ_=>i) rfl rfl (Wd (by show i<(D.fs.map (enc cq)).length;rw[yH];omega))) (by cbv) ?_;cbv;refine⟨z9 om om,?_⟩;refine Yj om ?_;cbv;refine⟨z9 om (by show (e:Int)<(((D.fs.map (enc cq)).getD i []).length:Int);rw[hrow,zB];omega),?_⟩;refine Ws hrow ha om hA ?_;cbv;refine dA cm ?_;cbv;refine⟨z9 om om,?_⟩;refine pH hx om hX ?_;cbv;refine⟨zE om om,?_⟩;cbv;exact⟨(i+1,o.set y c),⟨hle,by rw[dV];exact g2,g3.trans (by rw[if_pos hyv])⟩,hmu,.trans (.unfocus 1000003 31 [] [] rfl rfl rfl ⟨rfl,rfl⟩) (.le okZ (by cbv;repeat' first|exact trivial|exact lR|exact zC rfl|exact⟨by show (D.fs.map (enc cq)).set i ((D.fs.map (enc cq)).getD i [])=D.fs.map (enc cq);rw[hrow];exact hsame⟩|exact zC (by show (enc cq o).set (0+y) _=enc cq (o.set y c);rw[wQ];exact lN hC)|apply And.intro) rfl)⟩
  {cbv;refine⟨zE om om,?_⟩;cbv;exact⟨(i+1,o),⟨hle,g2,g3.trans (by rw[if_neg (λq=>h1 (by exact om))])⟩,hmu,wkW⟩}
 ·(have hi:i=D.bs.length:=by exact om);have hEo:o=E:=by rw[g3,hi,vE];rfl
  subst hEo;cbv;refine tX (.trans (wkW (ps':=⟨[(6,zT 15 3 v)],tO v r D p++[(15,zW 3 (enc cq o))]⟩)) (.frz 15 rfl rfl (by cbv;repeat' first|exact trivial|exact z6 (by rw[zB];omega)|apply And.intro) (by cbv;repeat' first|exact trivial|apply And.intro))) rfl okR (by rfl) okR ?_;refine zU ?_;show ((enc cq o).drop 0).take v=enc cq o;rw[vS,yU (by rw[zB];omega)]
def nZ {α:Type}{l:List α}{i:Nat}{x:α}(h:l[i]?=some x):l.drop i=x::l.drop (i+1):=by have hi:=(w8.1 h).1;rw[WW hi];congr 1;rw[uW hi] at h;exact qP h
def Pw (v r:Nat)(D:Dic)(p:Nat)(hw:D.wf)(hn:D.nb.length<2^30)(hb:D.bs.length<2^30)(hp:p<2^30)(hf:∀ E,Pvs D E->E.fit (2^30)):Sound 165 [.ptr 1000000 0] (tO v r D p) [] (.tup []) (tO v r (rel v D.nb 0 (D,p)).1 (rel v D.nb 0 (D,p)).2) []:=by
 refine sF Tryz.f165 ?_;obtain⟨⟨E,q'⟩,hE⟩:∃ E,rel v D.nb 0 (D,p)=E:=⟨_,rfl⟩;rw[hE];dsimp only;have ccl:=A1 (enc ci D.nb) (λe he=>by unfold enc at he;obtain⟨x,_,rfl⟩:=y9.1 he;rfl) (by rw[zB];omega);rw[zB] at ccl;cbv;refine kA (λn=>match nqb n 1000001 with|true=>1000002|false=>10) ccl ?_;cbv;refine zY (σ:=Nat×Dic×Nat) (λs=>⟨[(0,.ptr 1000000 0),(10,zT 10 1 D.nb.length),(11,iV D.nb.length),(12,iV s.1)],tO v r s.2.1 s.2.2++[(10,zW 1 (enc ci D.nb))]⟩)
  (λs=>s.1<=D.nb.length/\Pvs D s.2.1/\s.2.2<=p+s.1/\(E,q')=rel v (D.nb.drop s.1) s.1 s.2) (λs=>D.nb.length-s.1)
  (0,D,p) ⟨by omega,.refl,by show p<=p+0;omega,by rw[<-hE];rfl⟩ (wkW) ?_
 intro s hs;obtain⟨e,F,q⟩:=s;obtain⟨g1,g2,g3,g4⟩:=hs;dsimp only at g1 g2 g3 g4;have hFw:=g2.wf hw;have hFl:=g2.len;have hff:=hf F g2;have hlf:=hFw.len;cbv;refine zG (λh=>?_) (λh=>?_)
 ·(have he:e<D.nb.length:=om;obtain⟨y,hy⟩:=yZ he;rw[nZ hy,rel] at g4;have cfr:=b9 v r F q y;have hle:e+1<=D.nb.length:=he;have hmu:D.nb.length-(e+1)<D.nb.length-e:=by omega);cbv
  refine⟨z9 om om,?_⟩;refine lI hy om ?_;cbv;refine kA id cfr ?_;cbv;refine zG (λh1=>?_) (λh1=>?_)
  rotate_left
  {cbv;refine⟨zE om om,?_⟩;cbv;exact⟨(e+1,F,q),⟨hle,g2,by show q<=p+(e+1);omega,g4.trans (by rw[if_neg (λk=>h1 (by exact om))])⟩,hmu,wkW⟩}
  (have hyv:y<v:=by exact om);rw[if_pos hyv] at g4
  unfold P3 at g4;cbv;refine zY (σ:=Nat) (λi=>⟨[(0,.ptr 1000000 0),(2,iV e),(10,zT 10 1 D.nb.length),(11,iV D.nb.length),(12,iV e),(24,zT 1000001 1 F.bs.length),(25,iV F.bs.length),(26,iV i)],tO v r F q++[(10,zW 1 (enc ci D.nb))]⟩)
   (λi=>i<=F.bs.length/\lP v e F F.bs 0=lP v e F (F.bs.drop i) i) (λi=>F.bs.length-i)
   0 ⟨by omega,rfl⟩ (wkW) ?_
  intro i hi0;obtain⟨k1,k2⟩:=hi0;cbv;refine zG (λhh=>?_) (λhh=>?_)
  ·(have hi:i<F.bs.length:=om;obtain⟨b,hbi⟩:=yZ hi;obtain⟨l,hl⟩:=yZ (show i<F.fs.length by omega);have hll:=hFw.row i l hl;have hgl:F.fs.getD i []=l:=getD_some hl;have hrow:=pY F.fs i;have hsame:=eU F.fs i;rw[hgl] at hrow hsame;obtain⟨a,ha⟩:=yZ (show e<l.length by omega);have hat:F.at i e=a:=by unfold Dic.at;rw[hgl,getD_some ha]);rw[nZ hbi,lP,hat] at k2
   (have fl:=hff.fs l (yE hl);have fa:Fits (2^30) a:=fl a (yE ha);obtain⟨A,hA⟩:=ex (zK a);have szA:A.sz (2^30):=by rw[<-hA];exact z5 fa);have qA:A.q=a:=by rw[<-hA];exact yD a
   (have csa:=s86 A (by have:=szA.n;omega);rw[qA] at csa;have hz:yG a=0↔a=0:=sA;have cfb:=b9 v r F q b;have hle2:i+1<=F.bs.length:=hi;have hmu2:F.bs.length-(i+1)<F.bs.length-i:=by omega);generalize yG a=sa at *
   cbv;refine⟨z9 om om,?_⟩;refine lI hbi om ?_;cbv;refine kA id cfb ?_;cbv;refine zX (λh2=>?_) (λh2=>?_);{cbv;refine⟨zE om om,?_⟩;cbv;exact⟨i+1,⟨hle2,k2.trans (by rw[if_neg (λk=>by have:=k.1;exact om)])⟩,hmu2,wkW⟩};cbv;refine⟨z9 om om,?_⟩;refine⟨_,.focus 1000003 31 (λ_=>i) rfl rfl (Wd (by show i<(F.fs.map (enc cq)).length;rw[yH];omega)),?_⟩;cbv;refine Yj om ?_;cbv;refine⟨z9 om (by show (e:Int)<(((F.fs.map (enc cq)).getD i []).length:Int);rw[hrow,zB];omega),?_⟩;refine Ws hrow ha om hA ?_;cbv;refine cA csa ?_;cbv;refine zG (λh3=>?_) (λh3=>?_);{cbv;refine⟨zE om om,?_⟩;cbv;exact⟨i+1,⟨hle2,k2.trans (by rw[if_neg (λk=>k.2 (hz.1 h3))])⟩,hmu2,(.trans (.unfocus 1000003 31 [] [] rfl rfl rfl ⟨rfl,rfl⟩) (.le okZ (by cbv;repeat' first|exact trivial|exact lR|exact zC rfl|exact⟨by show (F.fs.map (enc cq)).set i ((F.fs.map (enc cq)).getD i [])=F.fs.map (enc cq);rw[hrow];exact hsame⟩|exact zF om|apply And.intro) rfl))⟩};{have ha0:a≠0:=λk=>h3 (hz.2 k);have hR:=k2.trans (if_pos ⟨by exact om,ha0⟩);rw[hR] at g4;dsimp only at g4;have hpv:Pvs D (F.piv i e):=.step g2 hi oM (by rw[hat];exact ha0);have cpv:=Q8 v r F q i e hFw hi oM (by rw[hat];exact ha0) oM oM oM hff;generalize F.piv i e=F' at *;cbv;refine Yo (ps':=⟨[(0,.ptr 1000000 0),(10,zT 10 1 D.nb.length),(11,iV D.nb.length),(12,iV e),(49,.ptr 1000000 0),(50,iV i),(51,iV e)],tO v r F q++[(10,zW 1 (enc ci D.nb))]⟩) id (.trans (.unfocus 1000003 31 [] [] rfl rfl rfl ⟨rfl,rfl⟩) (.le okZ (by cbv;repeat' first|exact trivial|exact lR|exact zC rfl|exact⟨by show (F.fs.map (enc cq)).set i ((F.fs.map (enc cq)).getD i [])=F.fs.map (enc cq);rw[hrow];exact hsame⟩|exact zF om|apply And.intro) rfl)) rfl okA cpv okR rfl rfl rfl rfl rfl rfl rfl rfl ?_;cbv;refine⟨zE om om,?_⟩;cbv;exact⟨(e+1,F',q+1),⟨hle,hpv,by show q+1<=p+(e+1);omega,g4⟩,hmu,wkW⟩}
  ·(have hi:i=F.bs.length:=by exact om);have hR:lP v e F F.bs 0=none:=by rw[k2,hi,vE];rfl
   rw[hR] at g4;cbv;refine⟨zE om om,?_⟩;cbv;exact⟨(e+1,F,q),⟨hle,g2,by show q<=p+(e+1);omega,g4⟩,hmu,wkW⟩
 ·(have he:e=D.nb.length:=by exact om);have hEq:(E,q')=(F,q):=by rw[g4,he,vE];rfl
  cases hEq;cbv;refine tX (ps':=⟨[],tO v r E q'⟩) (wkW) rfl okR (by rfl) okR ?_;exact trivial
def Mr (v r:Nat)(D:Dic)(p:Nat):Sound 172 [.ptr 1000006 0] (tO v r D p++[(1000006,.box [.ptr 1000000 0])]) [] (zT 1000004 3 D.ob.length) (tO v r D p++[(1000006,.box [.ptr 1000000 0])]) []:=by refine sF Tryz.f172 ?_;cbv;refine tX (.refl _) rfl okR (by rfl) okR ?_;exact lR
def SA:Pg.funcs[171]?=some Tryz.f171:=by rw[vI];rfl
def AY (v r:Nat)(D:Dic)(p:Nat)(hw:D.wf)(hn:D.nb.length<2^30)(hb:D.bs.length<2^30)(hp:p<2^30)(hf:∀ E,Pvs D E->E.fit (2^30)):Sound 171 [.ptr 1000000 0,.fn 172 [.ptr 1000006 0]] (tO v r D p++[(1000006,.box [.ptr 1000000 0])]) [] (.tup [iV ((r8 v Dic.ob (65537-p) D p).2.2.1),zM ((r8 v Dic.ob (65537-p) D p).2.2.2)]) (tO v r (r8 v Dic.ob (65537-p) D p).1 (r8 v Dic.ob (65537-p) D p).2.1++[(1000006,.box [.ptr 1000000 0])]) []:=by
 refine xB SA rfl rfl rfl rfl rfl ?_;obtain⟨⟨E,q',c,ok⟩,hE⟩:∃ E,r8 v Dic.ob (65537-p) D p=E:=⟨_,rfl⟩;rw[hE];dsimp only;cbv;refine zY (σ:=Dic×Nat) (λs=>⟨[(0,.ptr 1000000 0),(1,.fn 172 [.ptr 1000006 0])],tO v r s.1 s.2++[(1000006,.box [.ptr 1000000 0])]⟩)
  (λs=>Pvs D s.1/\s.2<2^31/\(E,q',c,ok)=r8 v Dic.ob (65537-s.2) s.1 s.2) (λs=>65537-s.2)
  (D,p) ⟨.refl,by show p<2^31;omega,hE.symm⟩ (wkW) ?_
 intro s hs;obtain⟨F,q⟩:=s;obtain⟨g2,g3,g4⟩:=hs;dsimp only at g2 g3 g4;have hFw:=g2.wf hw;have hFl:=g2.len;have hff:=hf F g2;have hlf:=hFw.len;cbv;refine zG (λh=>?_) (λh=>?_)
 ·have hq:q<=65536:=om;rw[show 65537-q=(65536-q)+1 by omega,r8,if_pos hq] at g4;have cl1:=Mr v r F q;have cen:=DP v r F q hFw.ob oM (hff.ob.mono (by decide));have hen:=Gx (v:=v) (nb:=F.nb) (l:=F.ob);obtain⟨ee,hee⟩:=ex (ent v F.nb F.ob);rw[hee] at cen g4 hen;cbv;refine kA id cl1 ?_;cbv;refine kA id cen ?_;cbv;refine zG (λh1=>?_) (λh1=>?_);{rw[if_pos h1] at g4;cases g4;cbv;refine zP 6 (by cbv) ?_;cbv;refine tX (.refl _) rfl okR (by rfl) okR ?_;cbv;exact⟨lR,z4 (decide_eq_true om),trivial⟩}
  ·rw[if_neg h1] at g4;obtain⟨e,rfl⟩:∃ e:Nat,ee=e:=⟨ee.toNat,by omega⟩;rw[uF] at g4 hen;have he:=hen oM;have clv:=DN v r F q e hFw he.1 oM oM hff;have hlv:=Su (v:=v) (e:=e) (D:=F);obtain⟨rr,hrr⟩:=ex (lvR v e F);rw[hrr] at clv g4 hlv;cbv;refine kA id clv ?_;cbv;refine zG (λh2=>?_) (λh2=>?_);{rw[if_pos h2] at g4;cases g4;cbv;refine tX (.refl _) rfl okR (by rfl) okR ?_;cbv;exact okA}
   ·(rw[if_neg h2] at g4;obtain⟨i,rfl⟩:∃ i:Nat,rr=i:=⟨rr.toNat,by omega⟩;rw[uF] at g4 hlv;have hi:=hlv oM;have hne:F.at i e≠0:=by have:=hi.2.2;grind);have hpv:Pvs D (F.piv i e):=.step g2 hi.1 he.1 hne
    have cpv:=Q8 v r F q i e hFw hi.1 he.1 hne oM oM oM hff;rw[show 65536-q=65537-(q+1) by omega] at g4;generalize F.piv i e=F' at *;cbv;refine kA id cpv ?_;cbv;exact⟨(F',q+1),⟨hpv,by show q+1<2^31;omega,g4⟩,by show 65537-(q+1)<65537-q;omega,wkW⟩
 {have hq:¬q<=65536:=om;rw[show 65537-q=0 by omega,r8] at g4;cases g4;cbv;refine zP 6 (by cbv) ?_;cbv;refine tX (.refl _) rfl okR (by rfl) okR ?_;cbv;exact⟨lR,z4 (decide_eq_decide.2 ⟨λw=>by omega,λw=>by omega⟩),trivial⟩}
def fK (v r:Nat) (D:Dic) (p:Nat):List (Nat×Obj') :=
 [(1000000,.box [iV v,iV r,zT 1000001 1 D.bs.length,zT 80 1 D.nb.length,zT 1000003 1 D.fs.length,zT 125 3 D.ob.length,iV p]),(1000001,zW 1 (enc ci D.bs)),(1000003,.mat 3 (λ_=>D.fs.map (enc cq)) [])]
def fE (D:Dic):List (Nat×Obj'):=[(80,zW 1 (enc ci D.nb)),(125,zW 3 (enc cq D.ob))]
def C5:Pg.funcs[166]?=some Tryz.f166:=by rw[vI];rfl
def tL (v r : Nat) (D : Dic) : List (Nat × Obj') :=
  [(1000000, .box [iV v, iV r, zT 1000001 1 D.bs.length, zT 1000002 1 D.nb.length, zT 1000003 1 D.fs.length, .nil, iV 0]),
   (1000001, zW 1 (enc ci D.bs)), (1000002, zW 1 (enc ci D.nb)), (1000003, .mat 3 (fun _ => D.fs.map (enc cq)) [])]
def SN (v r:Nat):zI [[iV ((v:Int)+(r:Int))]]=enc ci [v+r]:=by show [[D.int .i64 ((v:Int)+(r:Int))]]=[[D.int .i64 ((v+r:Nat):Int)]];rw[Int.natCast_add]
def Kz:List (Int×Rat)->List Rat->List Rat
 |[],l=>l| t::r,l=>Kz r (l.set t.1.toNat t.2)
def lnS (n:Nat) (f:F):List Rat:=(Kz f.ts (List.replicate (n+1) 0)).set n f.c
def oP:∀ {ts:List (Int×Rat)} {l:List Rat},(Kz ts l).length=l.length
 |[],_=>rfl| t::r,l=>by rw[Kz,oP,dV]
def DM (v r:Nat)(D:Dic)(ts:List (Int×Rat))(c:Rat)(TS:List (Int×R))(C:R)(hTS:tR ts=TS)(hC:zK c=C)(W:List Rat)(hW:Kz ts (List.replicate (D.nb.length+1) 0)=W)(hn:D.nb.length<2^30)(hl:ts.length<2^30)(hr:∀ t,t∈ts->0<=t.1/\t.1<D.nb.length):Sound 206 [.ptr 1000000 0,.agg [tsv TS,zM C.neg,nat C.num,nat C.den]] (tL v r D) [] (zT 5 3 (D.nb.length+1)) (tL v r D) [(5,zW 3 (enc cq (W.set D.nb.length c)))]:=by
 refine sF Tryz.f206 ?_;have hWl:W.length=D.nb.length+1:=by rw[<-hW,oP,GO]
 have htl:=vR ts;rw[hTS] at htl;cbv;refine⟨zE om om,zV om om,uU om om,?_⟩;refine zY (σ:=Nat×List Rat) (λs=>⟨[(3,.ptr 3 0),(5,zT 14 3 (D.nb.length+1)),(16,tsv TS),(17,iV ts.length),(18,iV s.1)],tL v r D++[(3,.box [tsv TS,zM C.neg,nat C.num,nat C.den]),(14,zW 3 (enc cq s.2))]⟩)
  (λs=>s.1<=ts.length/\s.2.length=D.nb.length+1/\W=Kz (ts.drop s.1) s.2) (λs=>ts.length-s.1)
  (0,List.replicate (D.nb.length+1) 0) ⟨by omega,by simp,hW.symm⟩ (.le (by cbv;repeat' first|exact trivial|exact lR|exact zF (by (try dsimp only [zS] at *);rw[zB];omega)|exact zR rfl (by show Int.toNat _=_;omega)|apply And.intro) (by cbv;repeat' first|exact trivial|exact lR|exact zC rfl|exact⟨rfl⟩|exact zC (by show List.replicate (Int.toNat _) _=_;rw[show Int.toNat ((D.nb.length:Int)+1)=D.nb.length+1 by omega];exact pN _)|apply And.intro) rfl) ?_
 intro s hs;obtain⟨i,l⟩:=s;obtain⟨g1,g2,g3⟩:=hs;dsimp only at g1 g2 g3;cbv;refine zG (λh=>?_) (λh=>?_)
 ·(dsimp only at h;have hi:i<ts.length:=om;obtain⟨t,ht⟩:=yZ hi;rw[nZ ht,Kz] at g3;obtain⟨y,q⟩:=t;obtain⟨hy0,hyn⟩:=hr _ (yE ht);dsimp only at hy0 hyn g3;obtain⟨k,hk⟩:∃ k:Nat,y.toNat=k:=⟨_,rfl⟩;rw[hk] at g3;obtain⟨Q,hQ⟩:=ex (zK q);have hTi:TS[i]?=some (y,Q):=by rw[<-hTS,<-hQ];unfold tR;rw[jJ,ht];rfl);obtain⟨x,hx⟩:=yZ (show k<l.length by exact om)
  (obtain⟨X,hX⟩:=ex (zK x);have hle:i+1<=ts.length:=hi;have hmu:ts.length-(i+1)<ts.length-i:=by omega);cbv
  refine xL hTi wP wH ?_;cbv;refine⟨z9 om om,?_⟩;refine pH hx om hX ?_;cbv;refine⟨zE om om,?_⟩;cbv;exact⟨(i+1,l.set k q),⟨hle,by rw[dV];exact g2,g3⟩,hmu,.le okZ (by cbv;repeat' first|exact trivial|exact lR|exact zC rfl|exact⟨rfl⟩|exact zC (by show (enc cq l).set (0+Int.toNat y) _=enc cq (l.set k q);rw[wQ,hk];exact lN hQ)|apply And.intro) rfl⟩
 ·(dsimp only at h;have hi:i=ts.length:=by exact om);have hWe:l=W:=by rw[g3,hi,vE];rfl
  subst hWe;cbv;obtain⟨x,hx⟩:=yZ (show D.nb.length<l.length by omega);obtain⟨X,hX⟩:=ex (zK x);refine⟨zE om om,?_⟩;cbv;refine⟨z9 om om,?_⟩;refine pH hx om hX ?_;cbv;refine rY (ps':=⟨[(4,zT 14 3 (D.nb.length+1))],tL v r D++[(14,zW 3 (enc cq (l.set D.nb.length c)))]⟩) (λn=>match nqb n 5 with|true=>14|false=>n)
   (.le okZ (by
    cbv
    repeat' first|exact trivial|exact lR|exact zC rfl|exact⟨rfl⟩|exact zC (by show (enc cq l).set (0+Int.toNat _) _=enc cq (l.set D.nb.length c);rw[wQ,show Int.toNat (((D.nb.length+1:Nat):Int)-1)=D.nb.length by omega];exact lN hC)|apply And.intro) rfl) rfl okR (by rfl) okR ?_
  exact lR
def HV (v r:Nat)(D:Dic)(f:F)(hn:D.nb.length<2^30)(hl:f.ts.length<2^30)(hr:∀ t,t∈f.ts->0<=t.1/\t.1<D.nb.length):Sound 206 [.ptr 1000000 0,fv f] (tL v r D) [] (zT 5 3 (D.nb.length+1)) (tL v r D) [(5,zW 3 (enc cq (lnS D.nb.length f)))] :=
 DM v r D f.ts f.c _ _ rfl rfl _ rfl hn hl hr
structure Prg where
 v:Int
 rows:List A
 ob:A
abbrev pgv (P:Prg):PV:=.agg [iV P.v,alv P.rows,tsv P.ob.ts,zM P.ob.c.neg,nat P.ob.c.num,nat P.ob.c.den]
structure Prg.sz (P:Prg) (k:Nat):Prop where
 rows:Asz k P.rows
 ob:P.ob.sz k
theorem Prg.sz.mono {k m:Nat}{P:Prg}(h:P.sz k)(hm:k<=m):P.sz m:=⟨h.rows.mono hm,h.ob.mono hm⟩
def Prg.valid (P:Prg):Bool:=decide (0<=P.v/\P.v<=1280/\P.rows.length<=4096)&&P.ob.valid P.v&&P.rows.all (A.valid P.v)
def R.small (x:R):Bool:=decide (x.num.length<=2/\x.den.length<=2)&&x.ok
def V5:Pg.funcs[60]?=some Tryz.f60:=by rw[vI];rfl
def Kd (P:Prg)(hP:P.sz (2^32)):zH 60 [pgv P] (zM P.valid):=by
 refine xB V5 rfl rfl rfl rfl rfl ?_;obtain⟨n,us,ob⟩:=P;have hus:=hP.rows;have hc:∀ a,a∈us->zH 33 [av a,iV n] (zM (a.valid n)):=λa h=>gF a n ((hus.sz a h).mono (by decide));have co:=gF ob n (hP.ob.mono (by decide));have hul:=hus.len;dsimp only at hul;generalize hr:Prg.valid ⟨n,us,ob⟩=r;have hr0:r=(decide (0<=n/\n<=1280/\us.length<=4096)&&ob.valid n&&us.all (A.valid n)):=hr.symm;generalize ob.valid n=bo at *;obtain⟨ots,oc⟩:=ob;have hf:¬(0<=n/\n<=1280/\us.length<=4096)->r=false:=λh=>by rw[hr0,decide_eq_false h];rfl
 have ht:(0<=n/\n<=1280/\us.length<=4096)->r=(bo&&us.all (A.valid n)):=λh=>by rw[hr0,decide_eq_true h,xQ]
 clear hr hr0 hus hP;cbv;refine zX (λe1=>?_) (λe1=>?_)
 ·cbv
  (refine rC ?_;cbv)
  exact zO (hf okQ)
 cbv;refine zX (λe2=>?_) (λe2=>?_)
 ·cbv
  (refine rC ?_;cbv)
  exact zO (hf okQ)
 cbv;refine zX (λe3=>?_) (λe3=>?_)
 ·cbv
  (refine rC ?_;cbv)
  exact zO (hf okQ)
 have hv:=ht okQ;clear ht hf e1 e2 e3;cbv;refine cA co ?_;cbv;refine zZ (λe4=>?_) (λe4=>?_)
 rotate_left
 ·cbv
  (refine rC ?_;cbv)
  exact zO (by rw[hv,e4];rfl)
 rw[e4,xQ] at hv;cbv;refine zY (σ:=Nat) (λi=>⟨[(1,.ptr 1 0),(28,alv us),(29,iV us.length),(30,iV i)],[(1,.box [iV n,alv us,tsv ots,zM oc.neg,nat oc.num,nat oc.den])]⟩) (λi=>i<=us.length/\r=(us.drop i).all (A.valid n)) (λi=>us.length-i) 0 ⟨by omega,by rw[hv];rfl⟩ (.le (by cbv;repeat' first|exact trivial|exact lR|exact zF (by (try dsimp only [zS] at *);rw[zB];omega)|exact zF (by (try dsimp only [zS] at *);rw[zB])|apply And.intro) okZ rfl) ?_;clear hv;intro i hi;obtain⟨h1,h2⟩:=hi;cbv;refine zG (λh5=>?_) (λh5=>?_)
 ·have hlt:i<us.length:=om;obtain⟨a,ha⟩:=yB hlt;have cv:=hc a (yE ha);rw[yJ ha,Jq] at h2;generalize a.valid n=pa at *;cbv;refine xL ha kX fI ?_;cbv;refine cA cv ?_;cbv;refine zZ (λe=>?_) (λe=>?_);{cbv;refine⟨zE om om,?_⟩;cbv;exact⟨i+1,⟨om,by rw[h2,e,xQ]⟩,om,wkZ⟩}
  ·cbv
   (refine rC ?_;cbv)
   exact zO (by rw[h2,e];rfl)
 ·have he:i=us.length:=om;rw[he,vE] at h2;cbv
  (refine rC ?_;cbv)
  exact yN h2
def MB (x:R)(hx:x.sz (2^32)):zH 27 [rv x] (zM x.small):=by
 refine sF Tryz.f27 ?_;have cv:=Fk x hx;generalize hr:R.small x=r;have hr0:r=(decide (x.num.length<=2/\x.den.length<=2)&&x.ok):=hr.symm;generalize x.ok=b at *;obtain⟨a,n,d⟩:=x;dsimp only at hr0;have hf:¬(n.length<=2/\d.length<=2)->r=false:=λh=>by rw[hr0,decide_eq_false h];rfl
 have ht:(n.length<=2/\d.length<=2)->r=b:=λh=>by rw[hr0,decide_eq_true h,xQ]
 clear hr hr0 hx;cbv;refine zX (λe1=>?_) (λe1=>?_)
 rotate_left
 ·cbv
  (refine rC ?_;cbv)
  exact zO (hf okQ)
 cbv;refine zX (λe2=>?_) (λe2=>?_)
 rotate_left
 ·cbv
  (refine rC ?_;cbv)
  exact zO (hf okQ)
 have hv:=ht okQ;cbv;refine cA cv ?_;cbv
 (refine rC ?_;cbv)
 exact z4 hv.symm
def BY {t base x d ps0 ps K b z s}{m m':Nat}{o len o' len':Unit->Nat}{rows rows':Unit->List (List (List D))}(hw:Wk ps0 ps)(ht:ty t=.sli 1 b z)(hb:ev (zD ps.tmps) base=.osl m 1 o len)(ho:yK ps.objs m=some (.mat s rows []))(h0:o ()=0)(hl:len ()=(rows ()).length) (hx:ev (zD ps.tmps) x=.osl m' 1 o' len') (ho':yK ps.objs m'=some (.mat s rows' [])) (h0':o' ()=0) (hl':len' ()=(rows' ()).length) (hmm:nqb m m'=false) (hp:0<(rows' ()).length) (hr:Room (λ_=>(((rows ()).length+(rows' ()).length:Nat):Int)) b) (hf:yO m ⟨xW (scr m') (xW (scr m) ps.tmps),y6 (scr m') (xK (y6 (scr m) (xK ps.objs m)) m')⟩=true) (hK:K ⟨vQ (xW (scr m') (xW (scr m) ps.tmps)) d (zT m 1 ((rows ()).length+(rows' ()).length)),y6 (scr m') (xK (y6 (scr m) (xK ps.objs m)) m')++[(m,.mat s (λ_=>rows ()++rows' ()) [])]⟩):AppK t base x (some d) ps0 K :=
 ⟨.inr ⟨ps,d,m,b,z,m,m',s,o,len,rows,o',len',rows',hw,rfl,ht,hb,ho,h0,hl,hx,ho',h0',hl',hmm,⟨hp⟩,hr,hf,hK⟩⟩
def Mk:ty 210=.sli 1 24 [.nil]:=by cbv
def sO (v r : Nat) (D : Dic) : List (Nat × Obj') :=
  [(13, .box [iV v, iV r, zT 48 1 D.bs.length, zT 26 1 D.nb.length, zT 60 1 D.fs.length, zT 68 3 D.ob.length, iV (((0 : Nat) : Int))]),
   (48, zW 1 (enc ci D.bs)), (26, zW 1 (enc ci D.nb)), (60, .mat 3 (fun _ => D.fs.map (enc cq)) []), (68, zW 3 (enc cq D.ob))]
def YI (n:Nat)(f:F):(lnS n f).length=n+1:=by unfold lnS;rw[dV,oP,GO]
def FC:Pg.funcs[164]?=some Tryz.f164:=by rw[vI];rfl
def CL {k n:Nat}(hk:1<=k):lfit k (List.replicate n 0):=λc hc=>by rw[Rv hc];exact wJ hk
def DA (c:Rat):Fits 1 (((-(yG c):Int)):Rat):=by refine mV ?_ (yQ 1);unfold yG;split;{decide};{split <;> decide}
abbrev qlv (l:List Rat):PV:=.sl (λ_=>enc cq l)
abbrev ilv (l:List Nat):PV:=.sl (λ_=>enc ci l)
def slc (s:SolR):List PV:=[iV s.st,zM ((zK s.val).neg),nat (zK s.val).num,nat (zK s.val).den,qlv s.pt,qlv s.du,qlv s.ry,ilv s.bas,iV s.pv]
abbrev slv (s:SolR):PV:=.agg [iV s.st,zM ((zK s.val).neg),nat (zK s.val).num,nat (zK s.val).den,qlv s.pt,qlv s.du,qlv s.ry,ilv s.bas,iV s.pv]
def sP (v r : Nat) (D : Dic) (p : Nat) : List (Nat × Obj') :=
  [(13, .box [iV v, iV r, zT 48 1 D.bs.length, zT 26 1 D.nb.length, zT 60 1 D.fs.length, zT 68 3 D.ob.length, iV p]),
   (48, zW 1 (enc ci D.bs)), (26, zW 1 (enc ci D.nb)), (60, .mat 3 (fun _ => D.fs.map (enc cq)) []), (68, zW 3 (enc cq D.ob))]
def A2 (xs:List (List D))(hw:∀ e,e∈xs->e.length=1)(hn:xs.length<2^40):Sound 112 [zT 1000001 1 xs.length] [(1000001,zW 1 xs)] [] (.sl (λ_=>xs)) [(1000001,zW 1 xs)] []:=by refine xB KM rfl rfl rfl rfl rfl ?_;cbv;refine⟨λb hb=>?_⟩;cbv;refine zZ (λh=>?_) (λh=>?_);{have h0:xs.length=0:=hb h;have h1:xs=[]:=gO h0;subst h1;cbv;refine tX (wkZ (ps':=⟨[(2,.nil)],[(1000001,zW 1 ([]))]⟩)) rfl okR (by rfl) okR ?_;exact xC rfl};{cbv;refine Jk QT rfl rfl rfl rfl rfl rfl rfl rfl ⟨hw⟩ (zV om (by simp only[dU];(try dsimp only [zS] at *) <;> omega)) rfl ?_;cbv;refine tX (.frz 7 rfl rfl (by cbv;repeat' first|exact trivial|exact z6 (by simp)|apply And.intro) (by cbv;repeat' first|exact trivial|apply And.intro)) rfl okR (by rfl) okR ?_;refine zU ?_;show (([]++xs).drop 0).take ([].length+xs.length)=xs;simp}
def CH {v:Nat}{ln:Dic->List Rat}(hln:∀ D,ln D=D.ob):∀ (f:Nat) (D:Dic) (p:Nat),0<=(r8 v ln f D p).2.2.1->(r8 v ln f D p).2.2.1.toNat<(r8 v ln f D p).1.nb.length
 |0,D,p,h=>by rw[r8] at h;exact absurd h (by show ¬(0:Int)<=-1;decide)| f+1,D,p,h=>by rw[r8] at h ⊢;split at h;{rename_i h1;rw[if_pos h1];split at h;{exact absurd h (by show ¬(0:Int)<=-1;decide)};{rename_i h2;rw[if_neg h2];split at h;{rename_i h3;rw[if_pos h3];exact (Gx (v:=v) (nb:=D.nb) (l:=ln D) h).1};{rename_i h3;rw[if_neg h3];exact CH hln f _ _ h}}};{exact absurd h (by show ¬(0:Int)<=-1;decide)}
def FB:Pg.funcs[111]?=some Tryz.f111:=by rw[vI];rfl
def Pts (fs:List F) (X:Int->Rat):Prop:=∀ f,f∈fs->0<=f.at X
structure Sem (fs:List F) (ob:F) (st:Nat) (z:Rat):Prop where
 opt:st=1->(∃ X,Pts fs X/\ob.at X=z)/\∀ X,Pts fs X->z<=ob.at X
 inf:st=2->z=0/\∀ X,¬Pts fs X
 unb:st=3->z=0/\∀ m:Rat,∃ X,Pts fs X/\ob.at X<m
 one:st=1\/st=2\/st=3
def Ky {k:Nat}:∀ {ts:List (Int×Rat)} {l:List Rat},(∀ t,t∈ts->Fits k t.2)->lfit k l->lfit k (Kz ts l)
 |[],l,_,h=>h| t::r,l,ht,h=>Ky (ts:=r) (λu hu=>ht u (w6 _ hu)) (lfit.set h (ht t vH) _)
def Gh {v k n:Nat}{f:F}(hk:1<=k)(h:f.fl k n):lfit k (lnS v f):=lfit.set (Ky h.t (CL hk)) h.c _
def Kx {v:Nat}{f:F}:(lnS v f).length=v+1:=by unfold lnS;rw[dV,oP,GO]
def G7 {v k n:Nat}{fs:List F}{ob:F}(hk:1<=k)(h:∀ f,f∈fs->f.fl k n)(ho:ob.fl k n):(kM v (fs.map (lnS v)) (lnS v ob)).fit k:=⟨λl hl=>by obtain⟨f,hf,rfl⟩:=y9.1 hl;exact Gh hk (h f hf),Gh hk ho⟩
end Go.Proofs.YtboocdbmnfjomaaGreat
