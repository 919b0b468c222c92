/- A part of the proof: SyB, SyC, SyD, SyE, SyF, SnA, SnB, SyG, SyH. -/
import Derived.Test.YtboocdbmnfjomaaGreatV34
import Derived.Test.YtboocdbmnfjomaaGreatV13
import Derived.Test.YtboocdbmnfjomaaGreatChecked
import Derived.Deep.RegionLaw
import Derived.WalkKit
import Derived.Lib.Walk
import Derived.Lib.SliceRun
import Derived.Lib.AppendZerosOnto
import Derived.Lib.Overlaps
set_option linter.all false
namespace Go.Proofs.YtboocdbmnfjomaaGreat
open Go
set_option maxRecDepth 100000
set_option maxHeartbeats 4000000
abbrev cR (X:R):List PV:=[zM X.neg,nat X.num,nat X.den]
def pH {l:List Rat}{i i':Nat}{x:Rat}{X:R}{K:List PV->Prop}(h:l[i]?=some x)(hi:i'=i)(hX:zK x=X)(hK:K (cR X)):ElOk 3 (λ_=>enc cq l) (λ_=>i') K :=
 ⟨⟨cR X,rfl,rfl,by show (enc cq l)[i']?=_;rw[hi];unfold enc;rw[jJ,h,<-hX];rfl,hK⟩⟩
def lN {l:List Rat}{i:Nat}{x:Rat}{X:R}(hX:zK x=X):(enc cq l).set i [D.bool X.neg,D.sl (lm X.num),D.sl (lm X.den)]=enc cq (l.set i x):=by subst hX;rw[<-aM];rfl
def TU {a:Rat}{l f:List Rat}{i:Nat}{x:Rat}(hl:l.length=f.length)(hx:l[i]?=some x):((dY a l f).take i++l.drop i)[i]?=some x:=by
 have hi:=(w8.1 hx).1;have h1:((dY a l f).take i).length=i:=by rw[xP,dT];omega
 rw[dB oM,h1,iA,d5,tM];exact hx
def GJ {a:Rat}{l f:List Rat}{i:Nat}{x c y:Rat}(hl:l.length=f.length)(hx:l[i]?=some x)(hc:f[i]?=some c)(hy:y=x+a*c):((dY a l f).take i++l.drop i).set i y=(dY a l f).take (i+1)++l.drop (i+1):=by
 have hi:=(w8.1 hx).1;have h1:((dY a l f).take i).length=i:=by rw[xP,dT];omega
 have hg:(dY a l f)[i]?=some y:=by
  (have h2:=Zc a l f i hl;have h3:i<(dY a l f).length:=by rw[dT];exact hi);rw[uW h3]
  rw[wM,uW h3,wM,hx,wM,hc] at h2;simp only[Jr] at h2;rw[h2,hy]
 apply WZ;intro j;rw[cZ];have h4:((dY a l f).take (i+1)).length=i+1:=by rw[xP,dT];omega
 by_cases hj:i=j;{subst hj;rw[if_pos rfl,if_pos (by rw[alT53,h1,uP];omega),pK oM,uX oM];exact hg.symm};{rw[if_neg hj];by_cases hlt:j<i;{rw[pK oM,pK oM,uX hlt,uX oM]};{rw[dB oM,dB oM,h1,h4,d5,d5];congr 1;omega}}
def mD {α:Type}{l:List α}{i:Nat}{x:α}(h:l[i]?=some x):l.set i x=l:=by apply WZ;intro j;rw[cZ];by_cases hj:i=j;{subst hj;rw[if_pos rfl,if_pos (w8.1 h).1,h]};{rw[if_neg hj]}
def DK (l f:List Rat)(e:Nat)(hl:l.length=f.length)(he:e<l.length)(hn:l.length<2^40)(h1:lfit (2^32) l)(h2:lfit (2^32) f):Sound 240 [zT 1000001 3 l.length,iV e,zT 1000002 3 f.length] [(1000001,zW 3 (enc cq l)),(1000002,zW 3 (enc cq f))] [] (.tup []) [(1000001,zW 3 (enc cq (sbs l e f))),(1000002,zW 3 (enc cq f))] []:=by
 refine sF Tryz.f240 ?_;obtain⟨a,ha⟩:=yZ he;have hga:l.getD e 0=a:=getD_some ha;have fa:Fits (2^32) a:=h1 a (yE ha);obtain⟨A,hA⟩:=ex (zK a);have szA:A.sz (2^32):=by rw[<-hA];exact z5 fa
 have qA:A.q=a:=by rw[<-hA];exact yD a
 have csg:=s86 A (by have:=szA.n;omega);rw[qA] at csg;have hs0:sbs l e f=dY a (l.set e 0) f:=by unfold sbs;rw[hga]
 have hsz:yG a=0->sbs l e f=l:=λh=>DG (by rw[hga];exact sA.1 h) hl;generalize hsg:yG a=sg at *;obtain⟨L,hL⟩:=ex (sbs l e f);rw[hL] at hs0 hsz ⊢;obtain⟨Z,hZ⟩:=ex (zK 0);have hZ0:Z=⟨false,[],[]⟩:=by rw[<-hZ];unfold zK;simp[yV]
 cbv;refine⟨z9 om om,?_⟩;refine pH ha om hA ?_;cbv;refine cA csg ?_;cbv;refine zG (λh=>?_) (λh=>?_);{rw[hsz oM];refine tX (.refl _) rfl okR (by rfl) okR ?_;exact trivial};cbv;refine⟨z9 om om,?_⟩;refine pH ha om hA ?_;cbv;generalize hl0:l.set e 0=l0 at *;have hset:(enc cq l).set e [D.bool false,D.sl [],D.sl []]=enc cq l0:=by rw[<-hl0];exact lN (X:=⟨false,[],[]⟩) (by rw[hZ,hZ0])
 have hl0l:l0.length=f.length:=by rw[<-hl0,dV];exact hl
 have hf0:lfit (2^32) l0:=by rw[<-hl0];exact h1.set (wJ (by decide)) e
 refine zY (σ:=Nat×List Rat) (λs=>⟨[(0,zT 1000001 3 l.length),(6,.ptr 6 0),(20,zT 1000002 3 f.length),(21,iV f.length),(22,iV s.1)],
   [(1000001,zW 3 (enc cq s.2)),(1000002,zW 3 (enc cq f)),(6,.box (cR A))]⟩)
  (λs=>s.1<=f.length/\s.2=(dY a l0 f).take s.1++l0.drop s.1) (λs=>f.length-s.1)
  (0,l0) ⟨by omega,by simp⟩ (.le okZ (by cbv;exact⟨zC (by show (enc cq l).set (0+e) _=enc cq l0;rw[wQ];exact hset),zC rfl,okA,trivial⟩) rfl) ?_
 intro s hs;obtain⟨i,m⟩:=s;obtain⟨g1,g2⟩:=hs;dsimp only at g1 g2;cbv;refine zG (λh=>?_) (λh=>?_)
 ·(have hi:i<f.length:=om;obtain⟨c,hc⟩:=yZ hi;obtain⟨x,hx⟩:=yZ (show i<l0.length by rw[hl0l];exact hi);have hm:m[i]?=some x:=by rw[g2];exact TU hl0l hx);have hml:m.length=f.length:=by rw[g2,alT53,xP,dT,uP];omega
  (obtain⟨C,hC⟩:=ex (zK c);obtain⟨X,hX⟩:=ex (zK x);have fc:Fits (2^32) c:=h2 c (yE hc);have fx:Fits (2^32) x:=hf0 x (yE hx);have szC:C.sz (2^32):=by rw[<-hC];exact z5 fc);have szX:X.sz (2^32):=by rw[<-hX];exact z5 fx
  (have qC:C.q=c:=by rw[<-hC];exact yD c);have qX:X.q=x:=by rw[<-hX];exact yD x
  (have csc:=s86 C (by have:=szC.n;omega);rw[qC] at csc;obtain⟨W,hW⟩:=ex (zK (a*c));obtain⟨Y,hY⟩:=ex (zK (x+a*c));have fac:Fits (2^33) (a*c):=(wG fa fc).mono (by decide);have szW:W.sz (2^33):=by rw[<-hW];exact z5 fac);have qW:W.q=a*c:=by rw[<-hW];exact yD _
  (have cm:=D8 A C (szA.mono (by decide)) (szC.mono (by decide));rw[qA,qC,hW] at cm;have ca:=Fj X W (szX.mono (by decide)) (szW.mono (by decide));rw[qX,qW,hY] at ca;have hst:=GJ (a:=a) (y:=x+a*c) hl0l hx hc rfl;have hst0:yG c=0->m=(dY a l0 f).take (i+1)++l0.drop (i+1):=λh=>by have h0:=sA.1 h;have:=GJ (a:=a) (y:=x) hl0l hx hc (by rw[h0,Af,Ae]);rw[<-this,<-g2,mD hm]);rw[<-g2] at hst;generalize yG c=sc at *;cbv;refine⟨z9 om om,?_⟩;refine pH hc om hC ?_;cbv;refine cA csc ?_;cbv;refine zG (λh0=>?_) (λh0=>?_)
  {cbv;refine⟨zE om om,?_⟩;cbv;refine⟨(i+1,m),⟨by show i+1<=f.length;omega,hst0 oM⟩,by show f.length-(i+1)<f.length-i;omega,wkZ⟩};{cbv;refine zP 10 (by cbv) ?_;cbv;refine⟨z9 om om,?_⟩;refine pH hm om hX ?_;cbv;refine dA cm ?_;cbv;refine dA ca ?_;cbv;refine⟨z9 om om,?_⟩;refine pH hm om hX ?_;cbv;refine⟨zE om om,?_⟩;cbv;refine⟨(i+1,m.set i (x+a*c)),⟨by show i+1<=f.length;omega,hst⟩,by show f.length-(i+1)<f.length-i;omega,.le okZ (by cbv;exact⟨zC (by show (enc cq m).set (0+i) _=enc cq (m.set i (x+a*c));rw[wQ];exact lN hY),zC rfl,okA,trivial⟩) rfl⟩}
 ·(have hi:i=f.length:=by exact om);have hmL:m=L:=by rw[g2,hs0,hi,<-hl0l,vE,vM,<-dT a l0 f,vV]
  rw[<-hmL];cbv;refine tX (.refl _) rfl okR (by rfl) okR ?_;exact trivial
def pY (fs:List (List Rat))(i:Nat):(fs.map (enc cq)).getD i []=enc cq (fs.getD i []):=by simp only[wM,jJ];cases fs[i]? <;> rfl
def map_set (fs:List (List Rat))(i:Nat)(l:List Rat):(fs.map (enc cq)).set i (enc cq l)=(fs.set i l).map (enc cq):=by rw[List.map_set]
def eU (fs:List (List Rat))(i:Nat):(fs.map (enc cq)).set i (enc cq (fs.getD i []))=fs.map (enc cq):=by rw[map_set];congr 1;by_cases h:i<fs.length;{obtain⟨l,hl⟩:=yZ h;rw[getD_some hl,mD hl]};{rw[List.set_eq_of_length_le oM]}
def Ws {els:List (List D)}{l:List Rat}{i i':Nat}{x:Rat}{X:R}{K:List PV->Prop}(he:els=enc cq l)(h:l[i]?=some x)(hi:i'=i)(hX:zK x=X)(hK:K (cR X)):ElOk 3 (λ_=>els) (λ_=>i') K:=by subst he;exact pH h hi hX hK
def V4:Pg.funcs[208]?=some Tryz.f208:=by rw[vI];rfl
def Q9 (v r:Nat)(D:Dic)(p:Nat)(i:Nat)(hw:D.wf)(hi:i<D.fs.length)(hn:D.nb.length<2^40):Sound 208 [.ptr 1000000 0,iV i] (tO v r D p) [] (rv (zK (D.cst i))) (tO v r D p) []:=by
 refine xB V4 rfl rfl rfl rfl rfl ?_;obtain⟨l,hl⟩:=yZ hi;have hlen:=hw.row i l hl;have hgl:D.fs.getD i []=l:=getD_some hl;obtain⟨x,hx⟩:=yZ (show D.nb.length<l.length by omega);have hc:D.cst i=x:=by unfold Dic.cst;rw[hgl,getD_some hx]
 obtain⟨X,hX⟩:=ex (zK x);rw[hc,hX];have hrow:=pY D.fs i;have hsame:=eU D.fs i;rw[hgl] at hrow hsame;cbv;refine Wv 14 (.focus 1000003 30 (λ_=>i) rfl rfl (Wd (by show i<(D.fs.map (enc cq)).length;rw[yH];exact hi))) (by cbv) ?_;cbv;refine⟨z9 om om,?_⟩;refine Yj om ?_;cbv;refine⟨z9 om (by show (D.nb.length:Int)<(((D.fs.map (enc cq)).getD i []).length:Int);rw[hrow,zB];omega),?_⟩;refine Ws hrow hx om hX ?_;cbv;refine tX (ps':=⟨[(4,.ptr 4 0)],tO v r D p++[(4,.box (cR X))]⟩) (.trans (.unfocus 1000003 30 [] [] rfl rfl rfl ⟨rfl,rfl⟩) (.le okZ (by
  cbv
  repeat' first|exact trivial|exact lR|exact zC rfl|exact⟨by show (D.fs.map (enc cq)).set i ((D.fs.map (enc cq)).getD i [])=D.fs.map (enc cq);rw[hrow];exact hsame⟩|apply And.intro) rfl)) rfl
  okR (by rfl) okR ?_
 cbv;exact okA
def lI {l:List Nat}{i i':Nat}{x:Nat}{K:List PV->Prop}(h:l[i]?=some x)(hi:i'=i)(hK:K [iV x]):ElOk 1 (λ_=>enc ci l) (λ_=>i') K :=
 ⟨⟨ci x,rfl,rfl,by show (enc ci l)[i']?=_;rw[hi];unfold enc;rw[jJ,h];rfl,hK⟩⟩
def FD:Pg.funcs[218]?=some Tryz.f218:=by rw[vI];rfl
def DP (v r:Nat)(D:Dic)(p:Nat)(hl:D.ob.length=D.nb.length+1)(hn:D.nb.length<2^40)(hf:lfit (2^34) D.ob):Sound 218 [.ptr 1000000 0,zT 1000004 3 D.ob.length] (tO v r D p) [] (iV (ent v D.nb D.ob)) (tO v r D p) []:=by
 refine xB FD rfl rfl rfl rfl rfl ?_;obtain⟨E,hE⟩:=ex (ent v D.nb D.ob);rw[hE];cbv;refine zY (σ:=Nat×Int) (λs=>⟨[(0,.ptr 1000000 0),(1,zT 1000004 3 D.ob.length),(5,iV s.2),(11,zT 1000002 1 D.nb.length),(12,iV D.nb.length),(13,iV s.1)],tO v r D p⟩)
  (λs=>s.1<=D.nb.length/\(s.2=-1\/∃ k:Nat,s.2=k/\k<s.1)/\E=Wr v D.nb D.ob (D.nb.drop s.1) s.1 s.2) (λs=>D.nb.length-s.1)
  (0,-1) ⟨by omega,.inl rfl,by rw[<-hE];rfl⟩ (wkW) ?_
 intro s hs;obtain⟨j,b⟩:=s;obtain⟨g1,g2,g3⟩:=hs;dsimp only at g1 g2 g3;cbv;refine zG (λh=>?_) (λh=>?_)
 ·have hj:j<D.nb.length:=om;obtain⟨y,hy⟩:=yZ hj;obtain⟨c,hc⟩:=yZ (show j<D.ob.length by omega);have hd:D.nb.drop j=y::D.nb.drop (j+1):=by rw[WW hj];congr 1;rw[uW hj] at hy;exact qP hy
  (rw[hd,Wr,getD_some hc] at g3;obtain⟨C,hC⟩:=ex (zK c);have fc:Fits (2^34) c:=hf c (yE hc);have szC:C.sz (2^34):=by rw[<-hC];exact z5 fc);have qC:C.q=c:=by rw[<-hC];exact yD c
  (have csc:=s86 C (by have:=szC.n;omega);rw[qC] at csc;have hneg:yG c<0↔c<0:=by unfold yG;split <;> (try split) <;> constructor <;> intro _ <;> first|assumption|omega|(exfalso;omega)|grind);generalize yG c=sc at *
  (have cfr:=b9 v r D p y;cbv;refine⟨z9 om om,?_⟩;refine lI hy om ?_;cbv;refine kA id cfr ?_;cbv;have hle:j+1<=D.nb.length:=hj;have hmu:D.nb.length-(j+1)<D.nb.length-j:=by omega);have keepg:b=-1\/∃ k:Nat,b=k/\k<j+1:=by rcases g2 with g2|⟨k,g2,g2'⟩;{exact .inl g2};{exact .inr ⟨k,g2,Ad g2'⟩}
  have newg:((j:Nat):Int)=-1\/∃ k:Nat,((j:Nat):Int)=k/\k<j+1:=.inr ⟨j,rfl,HD j⟩;refine zX (λh1=>?_) (λh1=>?_);{cbv;refine⟨zE om om,?_⟩;cbv;exact⟨(j+1,b),⟨hle,keepg,g3.trans (by rw[if_neg om])⟩,hmu,wkW⟩};cbv;refine⟨z9 om om,?_⟩;refine pH hc om hC ?_;cbv;refine cA csc ?_;cbv;refine zX (λh2=>?_) (λh2=>?_)
  rotate_left
  {cbv;refine⟨zE om om,?_⟩;cbv;exact⟨(j+1,b),⟨hle,keepg,g3.trans (by rw[if_neg (λq=>h2 (hneg.2 q.2.1))])⟩,hmu,wkW⟩};cbv;refine zX (λh3=>?_) (λh3=>?_);{cbv;refine⟨zE om om,?_⟩;cbv;exact⟨(j+1,(j:Int)),⟨hle,newg,g3.trans (by rw[if_pos ⟨om,hneg.1 h2,.inl h3⟩])⟩,hmu,wkW⟩};have h3':¬b<0:=h3;obtain⟨k,hk,hkj⟩:∃ k:Nat,b=k/\k<j:=by rcases g2 with g2|⟨k,g2,g2'⟩;{omega};{exact⟨k,g2,g2'⟩}
  subst hk;obtain⟨z,hz⟩:=yZ (show k<D.nb.length by omega);rw[uF,getD_some hz] at g3;cbv;refine⟨z9 om om,?_⟩;refine lI hz om ?_;cbv;refine zG (λh4=>?_) (λh4=>?_);{cbv;refine⟨zE om om,?_⟩;cbv;exact⟨(j+1,(j:Int)),⟨hle,newg,g3.trans (by rw[if_pos ⟨om,hneg.1 h2,.inr om⟩])⟩,hmu,wkW⟩}
  ·(have hq:¬(v<=y/\c<0/\(((k:Nat):Int)<0\/y<z)):=λq=>by rcases q.2.2 with q|q;{omega};{exact h4 om});cbv;refine⟨zE om om,?_⟩;cbv;exact⟨(j+1,(k:Int)),⟨hle,keepg,g3.trans (by rw[if_neg hq])⟩,hmu,wkW⟩
 ·(have hj:j=D.nb.length:=by exact om);have hEb:b=E:=by rw[g3,hj,vE];rfl
  subst hEb;cbv;refine tX (.refl _) rfl okR (by rfl) okR ?_;exact lR
def BE {ops:List Oper}{ps ps':PS}{K:PS->Prop}(k i0:Nat)(hw:Wk ps ps')(hd:fG ops k=true)(hm:QW ops k i0 []=true)(h:QV ops k i0 0 [] ps' K):DrawK ops ps K:=.st k i0 0 [] ps' hw hd hm h
def S6 {l:List Nat}{i x:Nat}:(enc ci l).set i [D.int .i64 (x:Int)]=enc ci (l.set i x):=by rw[<-aM];rfl
def Ph {α:Type}{P L:List α}{i:Nat}{x:α}(hl:P.length=L.length)(hx:L[i]?=some x):(P.take i++L.drop i)[i]?=some x:=by
 have hi:=(w8.1 hx).1;have h1:(P.take i).length=i:=by rw[xP];omega
 rw[dB oM,h1,iA,d5,tM];exact hx
def HJ {α:Type}{P L:List α}{i:Nat}{x:α}(hl:P.length=L.length)(hx:P[i]?=some x):(P.take i++L.drop i).set i x=P.take (i+1)++L.drop (i+1):=by
 have hi:=(w8.1 hx).1;have h1:(P.take i).length=i:=by rw[xP];omega
 have h2:(P.take (i+1)).length=i+1:=by rw[xP];omega
 apply WZ;intro j;rw[cZ];by_cases hj:i=j;{subst hj;rw[if_pos rfl,if_pos (by rw[alT53,h1,uP];omega),pK oM,uX oM];exact hx.symm};{rw[if_neg hj];by_cases hlt:j<i;{rw[pK oM,pK oM,uX hlt,uX oM]};{rw[dB oM,dB oM,h1,h2,d5,d5];congr 1;omega}}
def pN (n:Nat):List.replicate n [D.bool false,D.sl [],D.sl []]=enc cq (List.replicate n 0):=by
 have h:y7 (cq 0)=[D.bool false,D.sl [],D.sl []]:=by
  (have:zK 0=⟨false,[],[]⟩:=by unfold zK;simp[yV]);unfold cq
  rw[this];rfl
 unfold enc;rw[List.map_replicate,h]
def SE {G:List Rat}{n i:Nat}(hn:G.length=n)(hi:i<n):(G.take i++List.replicate (n-i) 0)[i]?=some 0:=by
 have h1:(G.take i).length=i:=by rw[xP];omega
 rw[dB oM,h1,iA,QE,if_pos oM]
def K1 {G:List Rat}{n i:Nat}{x:Rat}(hn:G.length=n)(hx:G[i]?=some x):(G.take i++List.replicate (n-i) 0).set i x=G.take (i+1)++List.replicate (n-(i+1)) 0:=by
 have hi:=(w8.1 hx).1;have h1:(G.take i).length=i:=by rw[xP];omega
 have h2:(G.take (i+1)).length=i+1:=by rw[xP];omega
 apply WZ;intro j;rw[cZ];by_cases hj:i=j;{subst hj;rw[if_pos rfl,if_pos (by simp;omega),pK oM,uX oM];exact hx.symm}
 ·rw[if_neg hj];by_cases hlt:j<i;{rw[pK oM,pK oM,uX hlt,uX oM]}
  ·(rw[dB oM,dB oM,h1,h2,QE,QE];have e1:j-i<n-i↔j-(i+1)<n-(i+1):=by omega);by_cases h:j-i<n-i
   {rw[if_pos h,if_pos (e1.1 h)]};{rw[if_neg h,if_neg (λq=>h (e1.2 q))]}
def Q8 (v r0 : Nat) (D : Dic) (p r e : Nat) (hw : D.wf) (hr : r < D.bs.length) (he : e < D.nb.length) (h0 : D.at r e ≠ 0) (hp : p < 2^40) (hn : D.nb.length < 2^30) (hb : D.bs.length < 2^30) (hf : D.fit (2^30)) :
    Sound 207 [.ptr 1000000 0, iV r, iV e] (tO v r0 D p) [] (.tup []) (tO v r0 (D.piv r e) (p + 1)) [] := by
  refine sF Tryz.f207 ?_
  have hlf := hw.len
  obtain ⟨old, hold⟩ := yZ (l := D.fs) (i := r) oM
  have hol := hw.row r old hold
  have hgo : D.fs.getD r [] = old := getD_some hold
  obtain ⟨o, ho⟩ := yZ (show e < old.length by omega)
  have hgoe : old.getD e 0 = o := getD_some ho
  have ho0 : o ≠ 0 := by rw [← hgoe, ← hgo]; exact h0
  obtain ⟨b, hbr⟩ := yZ hr
  obtain ⟨y, hye⟩ := yZ he
  have fold : lfit (2^30) old := hf.fs old (yE hold)
  have fo := fold o (yE ho)
  obtain ⟨O, hO⟩ := ex (zK o)
  have szO : O.sz (2^30) := by rw [← hO]; exact z5 fo
  have qO : O.q = o := by rw [← hO]; exact yD o
  obtain ⟨F, hF⟩ := ex (kF old e)
  have hFl : F.length = D.nb.length + 1 := by rw [← hF, r6, hol]
  have hrow := pY D.fs r
  rw [hgo] at hrow
  obtain ⟨D', hD'⟩ := ex (D.piv r e)
  rw [hD']
  cbv
  refine ⟨zE om om, ?_⟩
  cbv
  refine ⟨z9 om om, ?_⟩
  refine ⟨_, .focus 1000003 30 (fun _ => r) rfl rfl (Wd (by show r < (D.fs.map (enc cq)).length; rw [yH]; omega)), ?_⟩
  cbv
  refine Yj om ?_
  cbv
  have hoL : ((D.fs.map (enc cq)).getD r []).length = old.length := by rw [hrow, zB]
  refine ⟨zV om (by rw [hoL]; exact om), uU om om, ?_⟩
  obtain ⟨Z, hZ⟩ := ex (zK 0)
  obtain ⟨G, hG⟩ : ∃ G, (old.map fun c => -c / o).set e 0 = G := ⟨_, rfl⟩
  have hGl : G.length = old.length := by rw [← hG, dV, yH]
  have hGF : G.set e (1 / o) = F := by rw [← hG, ← hF, List.set_set]; unfold kF; rw [hgoe]
  refine zY (σ := Nat × List Rat) (fun s => ⟨[(0, .ptr 1000000 0), (1, iV r), (2, iV e), (6, zT 30 3 old.length), (7, zT 27 3 old.length), (28, zT 30 3 old.length), (29, iV old.length), (30, iV s.1)],
      [(1000000, .box [iV v, iV r0, zT 1000001 1 D.bs.length, zT 1000002 1 D.nb.length, zT 1000003 1 D.fs.length, zT 1000004 3 D.ob.length, iV (((p + 1 : Nat) : Int))]),
       (1000001, zW 1 (enc ci D.bs)), (1000002, zW 1 (enc ci D.nb)), (1000003, .mat 3 (fun _ => D.fs.map (enc cq)) [(zT 30 3 old.length, fun _ => r)]), (1000004, zW 3 (enc cq D.ob)), (30, zW 3 (enc cq old)), (27, zW 3 (enc cq s.2))]⟩)
    (fun s => s.1 ≤ old.length ∧ s.2 = G.take s.1 ++ List.replicate (old.length - s.1) 0) (fun s => old.length - s.1)
    (0, List.replicate old.length 0) ⟨by omega, by simp⟩ (.le (by cbv; repeat' first | exact trivial | exact lR | exact zR rfl (by first | rfl | exact hoL | (show Int.toNat _ = _; rw [hoL]; rfl)) | exact zF (by rw [hoL]) | exact zF om | apply And.intro) (by
      cbv
      repeat' first | exact trivial | exact lR | exact zC rfl | exact zF om | exact ⟨rfl⟩ | exact zR rfl hoL | exact zC hrow | exact zC (by show List.replicate (Int.toNat _) _ = _; rw [hoL]; exact pN _) | apply And.intro) rfl) ?_
  intro s hs
  obtain ⟨j, m⟩ := s
  obtain ⟨g1, g2⟩ := hs
  dsimp only at g1 g2
  cbv
  refine zG (fun h => ?_) (fun h => ?_)
  · have hj : j < old.length := om
    obtain ⟨c, hc⟩ := yZ hj
    have fc := fold c (yE hc)
    obtain ⟨C, hC⟩ := ex (zK c)
    have szC : C.sz (2^30) := by rw [← hC]; exact z5 fc
    have qC : C.q = c := by rw [← hC]; exact yD c
    have csc := s86 C (by have := szC.n; omega)
    rw [qC] at csc
    obtain ⟨N, hN⟩ := ex (zK (-c))
    have fn : Fits (2^30) (-c) := bM fc
    have szN : N.sz (2^30) := by rw [← hN]; exact z5 fn
    have qN : N.q = -c := by rw [← hN]; exact yD _
    have cn := S8 C (szC.mono (by decide))
    rw [qC, hN] at cn
    obtain ⟨W, hW⟩ := ex (zK (-c / o))
    have cd := DV N O (szN.mono (by decide)) (szO.mono (by decide)) (by rw [qO]; exact ho0)
    rw [qN, qO, hW] at cd
    have hmj : m[j]? = some 0 := by rw [g2]; exact SE hGl hj
    have hGe : j = e → G[j]? = some 0 := fun q => by rw [← hG, q, cZ, if_pos rfl, if_pos (by rw [yH]; omega)]
    have hGn : j ≠ e → G[j]? = some (-c / o) := fun q => by rw [← hG, cZ, if_neg (fun h => q h.symm), jJ, hc]; rfl
    have hst0 : j = e ∨ c = 0 → m = G.take (j + 1) ++ List.replicate (old.length - (j + 1)) 0 := fun q => by
      have hg : G[j]? = some 0 := by
        by_cases q2 : j = e
        · exact hGe q2
        · rw [hGn q2, q.resolve_left q2]; congr 1; rw [Hz, i5, Hy]
      have := K1 hGl hg
      rw [← g2, mD hmj] at this
      exact this
    have hst : j ≠ e → m.set j (-c / o) = G.take (j + 1) ++ List.replicate (old.length - (j + 1)) 0 := fun q => by rw [g2]; exact K1 hGl (hGn q)
    have hle : j + 1 ≤ old.length := hj
    have hmu : old.length - (j + 1) < old.length - j := by omega
    have hsg : yG c = 0 → c = 0 := fun h => sA.1 h
    generalize yG c = sc at *
    cbv
    refine ⟨z9 om om, ?_⟩
    refine pH hc om hC ?_
    cbv
    refine zX (fun h1 => ?_) (fun h1 => ?_)
    · cbv
      refine ⟨zE om om, ?_⟩
      cbv
      exact ⟨(j + 1, m), ⟨hle, hst0 (.inl om)⟩, hmu, wkW⟩
    cbv
    refine cA csc ?_
    cbv
    refine zG (fun h2 => ?_) (fun h2 => ?_)
    · cbv
      refine ⟨zE om om, ?_⟩
      cbv
      exact ⟨(j + 1, m), ⟨hle, hst0 (.inr (hsg h2))⟩, hmu, wkW⟩
    cbv
    refine YQ 14 13 (by cbv) (by cbv) ?_
    cbv
    refine dA cn ?_
    cbv
    refine ⟨z9 om om, ?_⟩
    refine pH ho om hO ?_
    cbv
    refine dA cd ?_
    cbv
    refine ⟨z9 om om, ?_⟩
    refine pH hmj om hZ ?_
    cbv
    refine ⟨zE om om, ?_⟩
    cbv
    exact ⟨(j + 1, m.set j (-c / o)), ⟨hle, hst om⟩, hmu, .le okZ (by
      cbv
      repeat' first | exact trivial | exact lR | exact zC rfl | exact ⟨rfl⟩ | exact zC (by show (enc cq m).set (0 + j) _ = enc cq (m.set j (-c / o)); rw [wQ]; exact lN hW) | apply And.intro) rfl⟩
  · have hj : j = old.length := by exact om
    have hm : m = G := by rw [g2, hj, ← hGl, vV, iA]; simp
    subst hm
    obtain ⟨U, hU⟩ := ex (zK ((1 : Int) : Rat))
    have c1 := JX 1 (by decide) (by decide)
    rw [hU] at c1
    have qU : U.q = 1 := by rw [← hU]; exact yD _
    have szU : U.sz (2^30) := by rw [← hU]; exact z5 (fits_one.mono (by decide))
    obtain ⟨V, hV⟩ := ex (zK (1 / o))
    have cd := DV U O (szU.mono (by decide)) (szO.mono (by decide)) (by rw [qO]; exact ho0)
    rw [qU, qO, hV] at cd
    have hme : m[e]? = some 0 := by rw [← hG, cZ, if_pos rfl, if_pos (by rw [yH]; omega)]
    cbv
    refine YQ 13 12 (by cbv) (by cbv) ?_
    cbv
    refine dA c1 ?_
    cbv
    refine ⟨z9 om om, ?_⟩
    refine pH ho om hO ?_
    cbv
    refine dA cd ?_
    cbv
    refine ⟨z9 om om, ?_⟩
    refine pH hme om hZ ?_
    cbv
    refine BE (ps' := ⟨[(0, .ptr 1000000 0), (1, iV r), (2, iV e), (7, zT 27 3 F.length)],
      [(1000000, .box [iV v, iV r0, zT 1000001 1 D.bs.length, zT 1000002 1 D.nb.length, zT 1000003 1 D.fs.length, zT 1000004 3 D.ob.length, iV (((p + 1 : Nat) : Int))]),
       (1000001, zW 1 (enc ci D.bs)), (1000002, zW 1 (enc ci D.nb)), (1000003, .mat 3 (fun _ => D.fs.map (enc cq)) [(zT 30 3 old.length, fun _ => r)]), (1000004, zW 3 (enc cq D.ob)), (30, zW 3 (enc cq old)), (27, zW 3 (enc cq F))]⟩) 26 25
      (.le (by cbv; repeat' first | exact trivial | exact lR | exact zR rfl oM | apply And.intro) (by
        cbv
        repeat' first | exact trivial | exact lR | exact zC rfl | exact ⟨rfl⟩ | exact zC (by show (enc cq m).set (0 + e) _ = enc cq F; rw [wQ, ← hGF]; exact lN hV) | apply And.intro) rfl) (by cbv) (by cbv) ?_
    cbv
    refine ⟨z9 om om, ?_⟩
    refine lI hye om ?_
    cbv
    refine ⟨z9 om om, ?_⟩
    refine lI hbr om ?_
    cbv
    refine ⟨z9 om om, ?_⟩
    refine lI hbr om ?_
    cbv
    refine ⟨z9 om om, ?_⟩
    refine lI hye om ?_
    cbv
    obtain ⟨P, hP⟩ : ∃ P, (tY r e F 0 D.fs).set r old = P := ⟨_, rfl⟩
    have hPl : P.length = D.fs.length := by rw [← hP, dV, oF]
    have hfF : lfit (2^32) F := by rw [← hF]; exact (VK (by decide) fold).mono (by decide)
    refine zY (σ := Nat × List (List Rat)) (fun s => ⟨[(0, .ptr 1000000 0), (1, iV r), (2, iV e), (7, zT 27 3 F.length), (99, iV D.fs.length), (100, iV s.1)],
        [(1000000, .box [iV v, iV r0, zT 1000001 1 D.bs.length, zT 1000002 1 D.nb.length, zT 1000003 1 D.fs.length, zT 1000004 3 D.ob.length, iV (((p + 1 : Nat) : Int))]),
         (1000001, zW 1 (enc ci (D.bs.set r y))), (1000002, zW 1 (enc ci (D.nb.set e b))), (1000003, .mat 3 (fun _ => s.2.map (enc cq)) [(zT 30 3 old.length, fun _ => r)]), (1000004, zW 3 (enc cq D.ob)), (30, zW 3 (enc cq old)), (27, zW 3 (enc cq F))]⟩)
      (fun s => s.1 ≤ D.fs.length ∧ s.2 = P.take s.1 ++ D.fs.drop s.1) (fun s => D.fs.length - s.1)
      (0, D.fs) ⟨by omega, by simp⟩ (.le okZ (by
        cbv
        repeat' first | exact trivial | exact lR | exact zC rfl | exact ⟨rfl⟩ | exact zC (by show (enc ci D.bs).set (0 + r) _ = _; rw [wQ]; exact S6) | exact zC (by show (enc ci D.nb).set (0 + e) _ = _; rw [wQ]; exact S6) | apply And.intro) rfl) ?_
    intro s hs
    obtain ⟨i, M⟩ := s
    obtain ⟨k1, k2⟩ := hs
    dsimp only at k1 k2
    cbv
    refine zG (fun hh => ?_) (fun hh => ?_)
    · have hi : i < D.fs.length := om
      obtain ⟨l, hl⟩ := yZ hi
      have hll := hw.row i l hl
      have hMl : M.length = D.fs.length := by rw [k2, alT53, xP, uP]; omega
      have hMi : M[i]? = some l := by rw [k2]; exact Ph hPl hl
      obtain ⟨S, hS⟩ := ex (sbs l e F)
      have csub := DK l F e oM oM oM ((hf.fs l (yE hl)).mono (by decide)) hfF
      rw [hS] at csub
      have hPi : i ≠ r → P[i]? = some S := fun q => by rw [← hP, cZ, if_neg (fun h => q h.symm), bJ, hl, wQ]; simp [q, hS]
      have hPr : i = r → P[i]? = some l := fun q => by
        subst q
        rw [← hP, cZ, if_pos rfl, if_pos (by rw [oF]; omega)]
        rw [hold] at hl
        exact hl
      have hle : i + 1 ≤ D.fs.length := hi
      have hmu : D.fs.length - (i + 1) < D.fs.length - i := by omega
      have hstr : i = r → M = P.take (i + 1) ++ D.fs.drop (i + 1) := fun q => by
        have := HJ hPl (hPr q)
        rw [← k2, mD hMi] at this
        exact this
      have hst : i ≠ r → M.set i S = P.take (i + 1) ++ D.fs.drop (i + 1) := fun q => by rw [k2]; exact HJ hPl (hPi q)
      have hSl : S.length = l.length := by rw [← hS, YD]
      have hrowi := pY M i
      rw [getD_some hMi] at hrowi
      cbv
      refine zG (fun h5 => ?_) (fun h5 => ?_)
      · cbv
        refine ⟨zE om om, ?_⟩
        cbv
        exact ⟨(i + 1, M), ⟨hle, hstr om⟩, hmu, wkW⟩
      cbv
      refine ⟨z9 om om, ?_⟩
      refine ⟨_, .focus 1000003 31 (fun _ => i) rfl rfl (SC (by show i < (M.map (enc cq)).length; rw [yH]; omega) (by show r ≠ i; exact om)), ?_⟩
      cbv
      refine Yj om ?_
      cbv
      have hril : ((M.map (enc cq)).getD i []).length = l.length := by rw [hrowi, zB]
      refine Yo (ps' := ⟨[(0, .ptr 1000000 0), (1, iV r), (2, iV e), (7, zT 27 3 F.length), (99, iV D.fs.length), (100, iV i), (112, zT 31 3 l.length), (113, iV e), (114, zT 27 3 F.length)],
        [(1000000, .box [iV v, iV r0, zT 1000001 1 D.bs.length, zT 1000002 1 D.nb.length, zT 1000003 1 D.fs.length, zT 1000004 3 D.ob.length, iV (((p + 1 : Nat) : Int))]),
         (1000001, zW 1 (enc ci (D.bs.set r y))), (1000002, zW 1 (enc ci (D.nb.set e b))), (1000003, .mat 3 (fun _ => M.map (enc cq)) [(zT 31 3 l.length, fun _ => i), (zT 30 3 old.length, fun _ => r)]), (1000004, zW 3 (enc cq D.ob)), (30, zW 3 (enc cq old)), (27, zW 3 (enc cq F)), (31, zW 3 (enc cq l))]⟩) (fun n => match nqb n 1000001 with | true => 31 | false => 27)
        (.le (by cbv; repeat' first | exact trivial | exact lR | exact zR rfl hril | apply And.intro) (by
          cbv
          repeat' first | exact trivial | exact lR | exact zC rfl | exact ⟨rfl⟩ | exact zR rfl hril | exact zC hrowi | apply And.intro) rfl) rfl okA csub okR rfl rfl rfl rfl rfl rfl rfl rfl ?_
      cbv
      refine ⟨zE om om, ?_⟩
      cbv
      refine ⟨(i + 1, M.set i S), ⟨hle, hst om⟩, hmu, .trans (.unfocus 1000003 31 [] [(zT 30 3 old.length, fun _ => r)] rfl rfl rfl ⟨rfl, by show l.length = (enc cq S).length; rw [zB, hSl]⟩) (.le okZ (by
        cbv
        repeat' first | exact trivial | exact lR | exact zC rfl | exact ⟨rfl⟩ | exact ⟨by show (M.map (enc cq)).set i (enc cq S) = (M.set i S).map (enc cq); exact map_set _ _ _⟩ | apply And.intro) rfl)⟩
    · have hi : i = D.fs.length := by exact om
      have hM : M = P := by rw [k2, hi, vE, vM, ← hPl, vV]
      obtain ⟨T, hT⟩ := ex (sbs D.ob e F)
      have hwo := hw.ob
      have csub := DK D.ob F e oM oM oM (hf.ob.mono (by decide)) hfF
      rw [hT] at csub
      have hPM : M.set r F = tY r e F 0 D.fs := by
        rw [hM, ← hP, List.set_set]
        refine mD ?_
        rw [bJ, hold, wQ]
        simp
      have hDD : D' = ⟨D.bs.set r y, D.nb.set e b, M.set r F, T⟩ := by
        rw [← hD', hPM]
        unfold Dic.piv
        simp only [hgo, hF, getD_some hye, getD_some hbr, hT]
      have hTl : T.length = D.ob.length := by rw [← hT, YD]
      have hMl : M.length = D.fs.length := by rw [hM, hPl]
      have q1 : D'.bs = D.bs.set r y := by rw [hDD]
      have q2 : D'.nb = D.nb.set e b := by rw [hDD]
      have q3 : D'.fs = M.set r F := by rw [hDD]
      have q4 : D'.ob = T := by rw [hDD]
      clear hDD
      cbv
      refine kA (fun n => match nqb n 1000001 with | true => 1000004 | false => 27) csub ?_
      cbv
      refine ⟨z9 om om, ?_⟩
      refine NF om ?_
      cbv
      refine tX (ps' := ⟨[], tO v r0 D' (p + 1)⟩) (.trans (.unfocus 1000003 27 [] [] rfl rfl rfl ⟨rfl, by show F.length = (enc cq F).length; rw [zB]⟩) (.le okZ (by
        cbv
        repeat' first | exact trivial | exact lR | exact zC rfl | exact ⟨rfl⟩ | exact zR rfl (by first | (rw [q1, dV]; done) | (rw [q2, dV]; done) | (rw [q3, dV, hMl]; done) | (rw [q4]; exact hTl.symm)) | exact zC (by rw [q1]) | exact zC (by rw [q2]) | exact zC (by rw [q4]) | exact ⟨by show (M.map (enc cq)).set r (enc cq F) = D'.fs.map (enc cq); rw [q3]; exact map_set _ _ _⟩ | apply And.intro) rfl)) rfl
        okR (by rfl) okR ?_
      exact trivial
def tH (v r : Nat) (D : Dic) (p i : Nat) : List (Nat × Obj') :=
  [(1000000, .box [iV v, iV r, zT 1000001 1 D.bs.length, zT 1000002 1 D.nb.length, zT 1000003 1 D.fs.length, zT 1000004 3 D.ob.length, iV p]),
   (1000001, zW 1 (enc ci D.bs)), (1000002, zW 1 (enc ci D.nb)), (1000003, .mat 3 (fun _ => D.fs.map (enc cq)) [(zT 1000005 3 (((D.fs.map (enc cq)).getD i []).length), fun _ => i)]), (1000004, zW 3 (enc cq D.ob)), (1000005, zW 3 ((D.fs.map (enc cq)).getD i []))]
def Fd (v r:Nat)(D:Dic)(p:Nat)(i:Nat)(hw:D.wf)(hi:i<D.fs.length)(hn:D.nb.length<2^40):Sound 208 [.ptr 1000000 0,iV i] (tH v r D p i) [] (rv (zK (D.cst i))) (tH v r D p i) []:=by
 refine xB V4 rfl rfl rfl rfl rfl ?_;obtain⟨l,hl⟩:=yZ hi;have hlen:=hw.row i l hl;have hgl:D.fs.getD i []=l:=getD_some hl;obtain⟨x,hx⟩:=yZ (show D.nb.length<l.length by omega);have hc:D.cst i=x:=by unfold Dic.cst;rw[hgl,getD_some hx]
 obtain⟨X,hX⟩:=ex (zK x);rw[hc,hX];have hrow:=pY D.fs i;rw[hgl] at hrow;cbv;refine zP 14 (by cbv) ?_;cbv;refine⟨z9 om om,?_⟩;refine Yj om ?_;cbv;refine⟨z9 om (by show (D.nb.length:Int)<(((D.fs.map (enc cq)).getD i []).length:Int);rw[hrow,zB];omega),?_⟩;refine Ws hrow hx om hX ?_;cbv;refine tX (.refl _) rfl
  okR (by rfl) okR ?_
 cbv;exact okA
def DN (v r:Nat)(D:Dic)(p e:Nat)(hw:D.wf)(he:e<D.nb.length)(hn:D.nb.length<2^30)(hb:D.bs.length<2^30)(hf:D.fit (2^30)):Sound 219 [.ptr 1000000 0,iV e] (tO v r D p) [] (iV (lvR v e D)) (tO v r D p) []:=by
 refine sF Tryz.f219 ?_;have hlf:=hw.len;obtain⟨E,hE⟩:=ex (lvR v e D);rw[hE];cbv;refine zY (σ:=Nat×Int×Rat×R) (λs=>⟨[(0,.ptr 1000000 0),(1,iV e),(5,iV s.2.1),(6,.ptr 6 0),(15,zT 1000001 1 D.bs.length),(16,iV D.bs.length),(17,iV s.1)],tO v r D p++[(6,.box (cR s.2.2.2))]⟩)
  (λs=>s.1<=D.bs.length/\(s.2.1=-1\/∃ k:Nat,s.2.1=k/\k<s.1)/\Fits (2^31) s.2.2.1/\zK s.2.2.1=s.2.2.2/\E=U0 v e D (D.bs.drop s.1) s.1 s.2.1 s.2.2.1) (λs=>D.bs.length-s.1)
  (0,-1,0,⟨false,[],[]⟩) ⟨by omega,.inl rfl,wJ (by decide),by unfold zK;simp[yV],by rw[<-hE];rfl⟩ (wkW) ?_
 intro s hs;obtain⟨i,b,q,Q⟩:=s;obtain⟨g1,g2,g3,g4,g5⟩:=hs;dsimp only at g1 g2 g3 g4 g5;cbv;refine zG (λh=>?_) (λh=>?_)
 ·(have hi:i<D.bs.length:=om;obtain⟨y,hy⟩:=yZ hi;obtain⟨l,hl⟩:=yZ (show i<D.fs.length by omega);have hll:=hw.row i l hl;have hgl:D.fs.getD i []=l:=getD_some hl;have hrow:=pY D.fs i;have hsame:=eU D.fs i;rw[hgl] at hrow hsame;obtain⟨a,ha⟩:=yZ (show e<l.length by omega);have hat:D.at i e=a:=by unfold Dic.at;rw[hgl,getD_some ha]);obtain⟨x,hx⟩:=yZ (show D.nb.length<l.length by omega)
  (have hcs:D.cst i=x:=by unfold Dic.cst;rw[hgl,getD_some hx]);have hd:D.bs.drop i=y::D.bs.drop (i+1):=by rw[WW hi];congr 1;rw[uW hi] at hy;exact qP hy
  (rw[hd,U0,hat,hcs] at g5;have fl:=hf.fs l (yE hl);have fa:Fits (2^30) a:=fl a (yE ha);have fx:Fits (2^30) x:=fl x (yE hx);obtain⟨A,hA⟩:=ex (zK a);obtain⟨X,hX⟩:=ex (zK x);have szA:A.sz (2^30):=by rw[<-hA];exact z5 fa);have szX:X.sz (2^30):=by rw[<-hX];exact z5 fx
  (have qA:A.q=a:=by rw[<-hA];exact yD a);have qX:X.q=x:=by rw[<-hX];exact yD x
  (have csa:=s86 A (by have:=szA.n;omega);rw[qA] at csa;have hneg:yG a<0↔a<0:=by unfold yG;split <;> (try split) <;> constructor <;> intro _ <;> first|assumption|omega|(exfalso;omega)|grind);obtain⟨N,hN⟩:=ex (zK (-a))
  (have fn:Fits (2^30) (-a):=bM fa;have szN:N.sz (2^30):=by rw[<-hN];exact z5 fn);have qN:N.q=-a:=by rw[<-hN];exact yD _
  (have cn:=S8 A (szA.mono (by decide));rw[qA,hN] at cn;have cfr:=b9 v r D p y;have cco:=Fd v r D p i hw oM oM;rw[hcs,hX] at cco;have hle:i+1<=D.bs.length:=hi;have hmu:D.bs.length-(i+1)<D.bs.length-i:=by omega);have keepg:b=-1\/∃ k:Nat,b=k/\k<i+1:=by rcases g2 with g2|⟨k,g2,g2'⟩;{exact .inl g2};{exact .inr ⟨k,g2,Ad g2'⟩}
  have newg:((i:Nat):Int)=-1\/∃ k:Nat,((i:Nat):Int)=k/\k<i+1:=.inr ⟨i,rfl,HD i⟩;generalize hsa:yG a=sa at *;cbv;refine⟨z9 om om,?_⟩;refine lI hy om ?_;cbv;refine kA id cfr ?_;cbv;refine zX (λh1=>?_) (λh1=>?_);{cbv;refine⟨zE om om,?_⟩;cbv;exact⟨(i+1,b,q,Q),⟨hle,keepg,g3,g4,g5.trans (by rw[if_neg om])⟩,hmu,wkW⟩};cbv;refine⟨z9 om om,?_⟩;refine⟨_,.focus 1000003 31 (λ_=>i) rfl rfl (Wd (by show i<(D.fs.map (enc cq)).length;rw[yH];omega)),?_⟩;cbv;refine Yj om ?_;cbv;refine⟨z9 om (by show (e:Int)<(((D.fs.map (enc cq)).getD i []).length:Int);rw[hrow,zB];omega),?_⟩;refine Ws hrow ha om hA ?_;cbv;refine cA csa ?_;cbv;refine zG (λh2=>?_) (λh2=>?_);{cbv;refine⟨zE om om,?_⟩;cbv;exact⟨(i+1,b,q,Q),⟨hle,keepg,g3,g4,g5.trans (by rw[if_neg (λq=>by have:=hneg.2 q.2;omega)])⟩,hmu,.trans (.unfocus 1000003 31 [] [] rfl rfl rfl ⟨rfl,rfl⟩) (.le okZ (by cbv;repeat' first|exact trivial|exact lR|exact zC rfl|exact⟨by show (D.fs.map (enc cq)).set i ((D.fs.map (enc cq)).getD i [])=D.fs.map (enc cq);rw[hrow];exact hsame⟩|exact zF om|apply And.intro) rfl)⟩}
  (cbv;have ha0:a<0:=hneg.1 (by exact om);have hna:-a≠0:=by grind);rw[if_pos ⟨om,ha0⟩] at g5
  (obtain⟨t,ht⟩:=ex (x / -a);have ft:Fits (2^31) t:=by rw[<-ht];exact (We fx fn).mono (by decide));obtain⟨W,hW⟩:=ex (zK t)
  (have cd:=DV X N (szX.mono (by decide)) (szN.mono (by decide)) (by rw[qN];exact hna);rw[qX,qN,ht,hW] at cd;rw[ht] at g5;have szW:W.sz (2^31):=by rw[<-hW];exact z5 ft);have szQ:Q.sz (2^31):=by rw[<-g4];exact z5 g3
  (have qW:W.q=t:=by rw[<-hW];exact yD _);have qQ:Q.q=q:=by rw[<-g4];exact yD _
  (have ccm:=Si Q W (szQ.mono (by decide)) (szW.mono (by decide));rw[qQ,qW] at ccm;have hc1:wX q t > 0↔t<q:=by unfold wX;split <;> (try split) <;> constructor <;> intro _ <;> first|assumption|omega|(exfalso;omega)|grind);have hc0:wX q t=0↔t=q:=by unfold wX;split <;> (try split) <;> constructor <;> intro _ <;> first|assumption|omega|(exfalso;omega)|grind
  generalize hcm:wX q t=cm at *;refine uB 20 [(19,9)] (by cbv) (by cbv) (by cbv) ?_;cbv;refine bD Lf okA cco okR rfl rfl rfl rfl rfl rfl ?_;cbv;refine⟨z9 om om,?_⟩;refine Yj om ?_;cbv;refine⟨z9 om (by show (e:Int)<(((D.fs.map (enc cq)).getD i []).length:Int);rw[hrow,zB];omega),?_⟩;refine Ws hrow ha om hA ?_;cbv;refine dA cn ?_;cbv;refine dA cd ?_;cbv;refine zG (λh3=>?_) (λh3=>?_)
  ·(obtain⟨k,hk,hki⟩:∃ k:Nat,b=k/\k<i:=by rcases g2 with g2|⟨k,g2,g2'⟩;{exact absurd h3 (by show ¬(0:Int)<=b;omega)};{exact⟨k,g2,g2'⟩});subst hk;obtain⟨z,hz⟩:=yZ (show k<D.bs.length by omega);rw[uF,getD_some hz] at g5;cbv;refine cA ccm ?_;cbv;refine zX (λh4=>?_) (λh4=>?_)
   {cbv;refine zP 3 (by cbv) ?_;cbv;refine⟨zE om om,?_⟩;cbv;exact⟨(i+1,(i:Int),t,W),⟨hle,newg,ft,hW,g5.trans (by rw[if_pos (.inr (.inl (hc1.1 h4)))])⟩,hmu,.trans (.unfocus 1000003 31 [] [] rfl rfl rfl ⟨rfl,rfl⟩) (.le okZ (by cbv;repeat' first|exact trivial|exact lR|exact zC rfl|exact⟨by show (D.fs.map (enc cq)).set i ((D.fs.map (enc cq)).getD i [])=D.fs.map (enc cq);rw[hrow];exact hsame⟩|exact zF om|apply And.intro) rfl)⟩};cbv;refine zX (λh5=>?_) (λh5=>?_);{cbv;refine⟨z9 om om,?_⟩;refine lI hz om ?_;cbv;refine zG (λh6=>?_) (λh6=>?_);{cbv;refine zP 3 (by cbv) ?_;cbv;refine⟨zE om om,?_⟩;cbv;exact⟨(i+1,(i:Int),t,W),⟨hle,newg,ft,hW,g5.trans (by rw[if_pos (.inr (.inr ⟨hc0.1 h5,om⟩))])⟩,hmu,.trans (.unfocus 1000003 31 [] [] rfl rfl rfl ⟨rfl,rfl⟩) (.le okZ (by cbv;repeat' first|exact trivial|exact lR|exact zC rfl|exact⟨by show (D.fs.map (enc cq)).set i ((D.fs.map (enc cq)).getD i [])=D.fs.map (enc cq);rw[hrow];exact hsame⟩|exact zF om|apply And.intro) rfl)⟩};{cbv;refine⟨zE om om,?_⟩;cbv;exact⟨(i+1,(k:Int),q,Q),⟨hle,keepg,g3,g4,g5.trans (by rw[if_neg (λw=>w.elim (λw=>absurd w (Int.not_lt.2 (s4 _))) (λw=>w.elim (λw=>h4 (hc1.2 w)) (λw=>h6 (by have:=w.2;exact om))))])⟩,hmu,.trans (.unfocus 1000003 31 [] [] rfl rfl rfl ⟨rfl,rfl⟩) (.le okZ (by cbv;repeat' first|exact trivial|exact lR|exact zC rfl|exact⟨by show (D.fs.map (enc cq)).set i ((D.fs.map (enc cq)).getD i [])=D.fs.map (enc cq);rw[hrow];exact hsame⟩|exact zF om|apply And.intro) rfl)⟩}};{cbv;refine⟨zE om om,?_⟩;cbv;exact⟨(i+1,(k:Int),q,Q),⟨hle,keepg,g3,g4,g5.trans (by rw[if_neg (λw=>w.elim (λw=>absurd w (Int.not_lt.2 (s4 _))) (λw=>w.elim (λw=>h4 (hc1.2 w)) (λw=>h5 (hc0.2 w.1))))])⟩,hmu,.trans (.unfocus 1000003 31 [] [] rfl rfl rfl ⟨rfl,rfl⟩) (.le okZ (by cbv;repeat' first|exact trivial|exact lR|exact zC rfl|exact⟨by show (D.fs.map (enc cq)).set i ((D.fs.map (enc cq)).getD i [])=D.fs.map (enc cq);rw[hrow];exact hsame⟩|exact zF om|apply And.intro) rfl)⟩}
  ·(have h3':b<0:=by have:=h3;dsimp only at this;omega);cbv
   refine wU (by decide) ?_;cbv;refine zP 3 (by cbv) ?_;cbv;refine⟨zE om om,?_⟩;cbv;exact⟨(i+1,(i:Int),t,W),⟨hle,newg,ft,hW,g5.trans (by rw[if_pos (.inl h3')])⟩,hmu,.trans (.unfocus 1000003 31 [] [] rfl rfl rfl ⟨rfl,rfl⟩) (.le okZ (by cbv;repeat' first|exact trivial|exact lR|exact zC rfl|exact⟨by show (D.fs.map (enc cq)).set i ((D.fs.map (enc cq)).getD i [])=D.fs.map (enc cq);rw[hrow];exact hsame⟩|exact zF om|apply And.intro) rfl)⟩
 ·(have hi:i=D.bs.length:=by exact om);have hEb:b=E:=by rw[g5,hi,vE];rfl
  subst hEb;cbv;refine tX (.refl _) rfl okR (by rfl) okR ?_;exact lR


def rY {rs:List ResultVar}{r:PV}{ps ps':PS}{kept made:List (Nat×Obj')}(h:Nat->Nat)(hw:Wk ps ps')(h3:lv r=true)(h4:uA h ps'.objs (kept++made))(h5:ndO (yC h (kept++made))=true)(h6:ZJ h kept)(hr:match dW ps' rs with
  |some l=>les (mM l) (ren h r)| none=>False):RetOk rs r kept made ps:=by
 cases h1:dW ps' rs with
 |none=>rw[h1] at hr;exact hr.elim| some l=>rw[h1] at hr;exact⟨ps',l,h,hw,h1,cO hr,h3,h4,h5,h6⟩
def KM:Pg.funcs[112]?=some Tryz.f112:=by rw[vI];rfl
def QT:ty 117=.sli 1 8 [iV 0]:=by cbv
def Mj:ty 35=.sli 3 56 [.ff,.nil,.nil]:=by cbv
def A1 (xs:List (List D))(hw:∀ e,e∈xs->e.length=1)(hn:xs.length<2^40):Sound 112 [zT 1000001 1 xs.length] [(1000001,zW 1 xs)] [] (zT 7 1 xs.length) [(1000001,zW 1 xs)] [(7,zW 1 xs)]:=by refine xB KM rfl rfl rfl rfl rfl ?_;cbv;refine⟨λb hb=>?_⟩;cbv;refine zZ (λh=>?_) (λh=>?_);{have h0:xs.length=0:=hb h;have h1:xs=[]:=gO h0;subst h1;cbv;refine rY id (.trans (wkZ (ps':=⟨[(2,.nil)],[(1000001,zW 1 ([]))]⟩)) (.adoptT 7 1 2 rfl rfl)) rfl okR (by rfl) okR ?_;exact lR};{cbv;refine Jk QT rfl rfl rfl rfl rfl rfl rfl rfl ⟨hw⟩ (zV om (by simp only[dU];(try dsimp only [zS] at *) <;> omega)) rfl ?_;cbv;refine rY id (.refl _) rfl okR (by rfl) okR ?_;exact zR rfl (by simp)}

end Go.Proofs.YtboocdbmnfjomaaGreat
