/- A part of the proof: SyB, SyC, SyD, SyE. -/
import Derived.Test.YtfainocfaddbdaaGreatT30
set_option linter.all false
namespace Go.Proofs.YtfainocfaddbdaaGreat
open Go
set_option maxRecDepth 100000
set_option maxHeartbeats 4000000
abbrev cR (X:R):List PV:=[.bool (fun _=>X.neg),nat X.num,nat X.den]
theorem k7 {l:List Rat}{i i':Nat}{x:Rat}{X:R}{K:List PV->Prop}(h:l[i]?=some x)(hi:i'=i)(hX:zS x=X)(hK:K (cR X)):ElOk 3 (fun _=>enc cq l) (fun _=>i') K :=
 ⟨⟨cR X,rfl,rfl,by show (enc cq l)[i']?=_;rw[hi];unfold enc;rw[List.getElem?_map,h,<-hX];rfl,hK⟩⟩
theorem cX {l:List Rat}{i:Nat}{x:Rat}{X:R}(hX:zS x=X):(enc cq l).set i [D.bool X.neg,D.sl (lm X.num),D.sl (lm X.den)]=enc cq (l.set i x):=by subst hX;rw[<-zF9];rfl
theorem zOE {a:Rat}{l f:List Rat}{i:Nat}{x:Rat}(hl:l.length=f.length)(hx:l[i]?=some x):((k8 a l f).take i++l.drop i)[i]?=some x:=by
 have hi:=(List.getElem?_eq_some_iff.1 hx).1;have h1:((k8 a l f).take i).length=i:=by rw[List.length_take,kY];omega
 rw[List.getElem?_append_right (by omega),h1,Nat.sub_self,List.getElem?_drop,Nat.add_zero];exact hx
theorem zGI {a:Rat}{l f:List Rat}{i:Nat}{x c y:Rat}(hl:l.length=f.length)(hx:l[i]?=some x)(hc:f[i]?=some c)(hy:y=x+a*c):((k8 a l f).take i++l.drop i).set i y=(k8 a l f).take (i+1)++l.drop (i+1):=by
 have hi:=(List.getElem?_eq_some_iff.1 hx).1;have h1:((k8 a l f).take i).length=i:=by rw[List.length_take,kY];omega
 have hg:(k8 a l f)[i]?=some y:=by
  (have h2:=tC a l f i hl;have h3:i<(k8 a l f).length:=by rw[kY];exact hi);rw[List.getElem?_eq_getElem h3]
  rw[List.getD_eq_getElem?_getD,List.getElem?_eq_getElem h3,List.getD_eq_getElem?_getD,hx,List.getD_eq_getElem?_getD,hc] at h2;simp only[Option.getD_some] at h2;rw[h2,hy]
 apply List.ext_getElem?;intro j;rw[List.getElem?_set];have h4:((k8 a l f).take (i+1)).length=i+1:=by rw[List.length_take,kY];omega
 by_cases hj:i=j;{subst hj;rw[if_pos rfl,if_pos (by rw[List.length_append,h1,List.length_drop];omega),List.getElem?_append_left (by omega),List.getElem?_take_of_lt (by omega)];exact hg.symm};{rw[if_neg hj];by_cases hlt:j<i;{rw[List.getElem?_append_left (by omega),List.getElem?_append_left (by omega),List.getElem?_take_of_lt hlt,List.getElem?_take_of_lt (by omega)]};{rw[List.getElem?_append_right (by omega),List.getElem?_append_right (by omega),h1,h4,List.getElem?_drop,List.getElem?_drop];congr 1;omega}}
theorem gR {α:Type}{l:List α}{i:Nat}{x:α}(h:l[i]?=some x):l.set i x=l:=by apply List.ext_getElem?;intro j;rw[List.getElem?_set];by_cases hj:i=j;{subst hj;rw[if_pos rfl,if_pos (List.getElem?_eq_some_iff.1 h).1,h]};{rw[if_neg hj]}
theorem zJL (l f:List Rat)(e:Nat)(hl:l.length=f.length)(he:e<l.length)(hn:l.length<2^40)(h1:lfit (2^32) l)(h2:lfit (2^32) f):Sound 131 [.osl 1000001 3 (fun _=>0) (fun _=>l.length),.int .i64 (fun _=>(e:Int)),.osl 1000002 3 (fun _=>0) (fun _=>f.length)] [(1000001,.arr 3 (fun _=>enc cq l)),(1000002,.arr 3 (fun _=>enc cq f))] [] (.tup []) [(1000001,.arr 3 (fun _=>enc cq (sbs l e f))),(1000002,.arr 3 (fun _=>enc cq f))] []:=by
 refine sF Tryz.f131 ?_;obtain⟨a,ha⟩:=zV he;have hga:l.getD e 0=a:=getD_some ha;have fa:Fits (2^32) a:=h1 a (List.mem_of_getElem? ha);obtain⟨A,hA⟩:∃ A,zS a=A:=⟨_,rfl⟩;have szA:A.sz (2^32):=by rw[<-hA];exact yZ fa
 have qA:A.q=a:=by rw[<-hA];exact xF a
 have csg:=s86 A (by have:=szA.n;omega);rw[qA] at csg;have hs0:sbs l e f=k8 a (l.set e 0) f:=by unfold sbs;rw[hga]
 have hsz:xJ a=0->sbs l e f=l:=fun h=>zH9 (by rw[hga];exact jD.1 h) hl;generalize hsg:xJ a=sg at *
 obtain⟨L,hL⟩:∃ L,sbs l e f=L:=⟨_,rfl⟩;rw[hL] at hs0 hsz ⊢;obtain⟨Z,hZ⟩:∃ Z,zS 0=Z:=⟨_,rfl⟩;have hZ0:Z=⟨false,[],[]⟩:=by rw[<-hZ];unfold zS;simp[z6]
 cbv;refine⟨zQ om om,?_⟩;refine k7 ha om hA ?_;cbv;refine cA csg ?_;cbv;refine zF (fun h=>?_) (fun h=>?_);{rw[hsz (by omega)];refine qF (.refl _) rfl (by exact⟨⟨rfl,rfl⟩,⟨rfl,rfl⟩,trivial⟩) (by rfl) (by exact⟨⟨rfl,by omega⟩,⟨rfl,by omega⟩,trivial⟩) ?_;exact trivial};cbv;refine⟨zQ om om,?_⟩;refine k7 ha om hA ?_;cbv;generalize hl0:l.set e 0=l0 at *
 have hset:(enc cq l).set e [D.bool false,D.sl [],D.sl []]=enc cq l0:=by rw[<-hl0];exact cX (X:=⟨false,[],[]⟩) (by rw[hZ,hZ0])
 have hl0l:l0.length=f.length:=by rw[<-hl0,List.length_set];exact hl
 have hf0:lfit (2^32) l0:=by rw[<-hl0];exact h1.set (w6 (by decide)) e
 refine yB (σ:=Nat×List Rat) (fun s=>⟨[(0,.osl 1000001 3 (fun _=>0) (fun _=>l.length)),(6,.ptr 6 0),(20,.osl 1000002 3 (fun _=>0) (fun _=>f.length)),(21,.int .i64 (fun _=>(f.length:Int))),(22,.int .i64 (fun _=>(s.1:Int)))],
   [(1000001,.arr 3 (fun _=>enc cq s.2)),(1000002,.arr 3 (fun _=>enc cq f)),(6,.box (cR A))]⟩)
  (fun s=>s.1<=f.length/\s.2=(k8 a l0 f).take s.1++l0.drop s.1) (fun s=>f.length-s.1)
  (0,l0) ⟨by omega,by simp⟩ (.le okZ (by cbv;exact⟨zA (by show (enc cq l).set (0+e) _=enc cq l0;rw[Nat.zero_add];exact hset),zA rfl,okA,trivial⟩) rfl) ?_
 intro s hs;obtain⟨i,m⟩:=s;obtain⟨g1,g2⟩:=hs;dsimp only at g1 g2;cbv;refine zF (fun h=>?_) (fun h=>?_)
 ·(have hi:i<f.length:=om;obtain⟨c,hc⟩:=zV hi;obtain⟨x,hx⟩:=zV (show i<l0.length by rw[hl0l];exact hi);have hm:m[i]?=some x:=by rw[g2];exact zOE hl0l hx);have hml:m.length=f.length:=by rw[g2,List.length_append,List.length_take,kY,List.length_drop];omega
  (obtain⟨C,hC⟩:∃ C,zS c=C:=⟨_,rfl⟩;obtain⟨X,hX⟩:∃ X,zS x=X:=⟨_,rfl⟩;have fc:Fits (2^32) c:=h2 c (List.mem_of_getElem? hc);have fx:Fits (2^32) x:=hf0 x (List.mem_of_getElem? hx);have szC:C.sz (2^32):=by rw[<-hC];exact yZ fc);have szX:X.sz (2^32):=by rw[<-hX];exact yZ fx
  (have qC:C.q=c:=by rw[<-hC];exact xF c);have qX:X.q=x:=by rw[<-hX];exact xF x
  (have csc:=s86 C (by have:=szC.n;omega);rw[qC] at csc;obtain⟨W,hW⟩:∃ W,zS (a*c)=W:=⟨_,rfl⟩;obtain⟨Y,hY⟩:∃ Y,zS (x+a*c)=Y:=⟨_,rfl⟩;have fac:Fits (2^33) (a*c):=(pT fa fc).mono (by decide);have szW:W.sz (2^33):=by rw[<-hW];exact yZ fac);have qW:W.q=a*c:=by rw[<-hW];exact xF _
  (have cm:=s199 A C (szA.mono (by decide)) (szC.mono (by decide));rw[qA,qC,hW] at cm;have ca:=s138 X W (szX.mono (by decide)) (szW.mono (by decide));rw[qX,qW,hY] at ca;have hst:=zGI (a:=a) (y:=x+a*c) hl0l hx hc rfl;have hst0:xJ c=0->m=(k8 a l0 f).take (i+1)++l0.drop (i+1):=fun h=>by have h0:=jD.1 h;have:=zGI (a:=a) (y:=x) hl0l hx hc (by rw[h0,Rat.mul_zero,Rat.add_zero]);rw[<-this,<-g2,gR hm]);rw[<-g2] at hst;generalize xJ c=sc at *
  cbv;refine⟨zQ om om,?_⟩;refine k7 hc om hC ?_;cbv;refine cA csc ?_;cbv;refine zF (fun h0=>?_) (fun h0=>?_);{cbv;refine⟨zE om om,?_⟩;cbv;refine⟨(i+1,m),⟨by show i+1<=f.length;omega,hst0 (by omega)⟩,by show f.length-(i+1)<f.length-i;omega,wkZ⟩};{cbv;refine zZ 10 (by cbv) ?_;cbv;refine⟨zQ om om,?_⟩;refine k7 hm om hX ?_;cbv;refine dA cm ?_;cbv;refine dA ca ?_;cbv;refine⟨zQ om om,?_⟩;refine k7 hm om hX ?_;cbv;refine⟨zE om om,?_⟩;cbv;refine⟨(i+1,m.set i (x+a*c)),⟨by show i+1<=f.length;omega,hst⟩,by show f.length-(i+1)<f.length-i;omega,.le okZ (by cbv;exact⟨zA (by show (enc cq m).set (0+i) _=enc cq (m.set i (x+a*c));rw[Nat.zero_add];exact cX hY),zA rfl,okA,trivial⟩) rfl⟩}
 ·(have hi:i=f.length:=by (try dsimp only [zJ] at *);omega);have hmL:m=L:=by rw[g2,hs0,hi,<-hl0l,List.drop_length,List.append_nil,<-kY a l0 f,List.take_length]
  rw[<-hmL];cbv;refine qF (.refl _) rfl (by exact⟨⟨rfl,rfl⟩,⟨rfl,rfl⟩,trivial⟩) (by rfl) (by exact⟨⟨rfl,by omega⟩,⟨rfl,by omega⟩,trivial⟩) ?_;exact trivial
theorem qS (fs:List (List Rat))(i:Nat):(fs.map (enc cq)).getD i []=enc cq (fs.getD i []):=by simp only[List.getD_eq_getElem?_getD,List.getElem?_map];cases fs[i]? <;> rfl
theorem map_set (fs:List (List Rat))(i:Nat)(l:List Rat):(fs.map (enc cq)).set i (enc cq l)=(fs.set i l).map (enc cq):=by rw[List.map_set]
theorem rV (fs:List (List Rat))(i:Nat):(fs.map (enc cq)).set i (enc cq (fs.getD i []))=fs.map (enc cq):=by rw[map_set];congr 1;by_cases h:i<fs.length;{obtain⟨l,hl⟩:=zV h;rw[getD_some hl,gR hl]};{rw[List.set_eq_of_length_le (by omega)]}
theorem i6 {els:List (List D)}{l:List Rat}{i i':Nat}{x:Rat}{X:R}{K:List PV->Prop}(he:els=enc cq l)(h:l[i]?=some x)(hi:i'=i)(hX:zS x=X)(hK:K (cR X)):ElOk 3 (fun _=>els) (fun _=>i') K:=by subst he;exact k7 h hi hX hK
theorem zAC:Pg.funcs[87]?=some Tryz.f87:=by rw[xX];rfl
theorem lI (v r:Nat)(D:Dic)(p:Nat)(i:Nat)(hw:D.wf)(hi:i<D.fs.length)(hn:D.nb.length<2^40):Sound 87 [.ptr 1000000 0,.int .i64 (fun _=>(i:Int))] (tO v r D p) [] (rv (zS (D.cst i))) (tO v r D p) []:=by
 refine yH zAC rfl rfl rfl rfl rfl ?_;obtain⟨l,hl⟩:=zV hi;have hlen:=hw.row i l hl;have hgl:D.fs.getD i []=l:=getD_some hl;obtain⟨x,hx⟩:=zV (show D.nb.length<l.length by omega);have hc:D.cst i=x:=by unfold Dic.cst;rw[hgl,getD_some hx]
 obtain⟨X,hX⟩:∃ X,zS x=X:=⟨_,rfl⟩;rw[hc,hX];have hrow:=qS D.fs i;have hsame:=rV D.fs i;rw[hgl] at hrow hsame;cbv;refine pY 14 (.focus 1000003 30 (fun _=>i) rfl rfl (dF (by show i<(D.fs.map (enc cq)).length;rw[List.length_map];exact hi))) (by cbv) ?_;cbv;refine⟨zQ om om,?_⟩;refine dX om ?_;cbv;refine⟨zQ om (by show (D.nb.length:Int)<(((D.fs.map (enc cq)).getD i []).length:Int);rw[hrow,zO];omega),?_⟩;refine i6 hrow hx om hX ?_;cbv;refine qF (ps':=⟨[(4,.ptr 4 0)],tO v r D p++[(4,.box (cR X))]⟩) (.trans (.unfocus 1000003 30 [] [] rfl rfl rfl ⟨rfl,rfl⟩) (.le okZ (by
  cbv
  repeat' first|exact trivial|exact lR|exact zA rfl|exact⟨by show (D.fs.map (enc cq)).set i ((D.fs.map (enc cq)).getD i [])=D.fs.map (enc cq);rw[hrow];exact hsame⟩|apply And.intro) rfl)) rfl
  (by exact⟨⟨rfl,rfl⟩,⟨rfl,rfl⟩,⟨rfl,rfl⟩,⟨rfl,rfl⟩,⟨rfl,rfl⟩,trivial⟩) (by rfl) (by exact⟨⟨rfl,by omega⟩,⟨rfl,by omega⟩,⟨rfl,by omega⟩,⟨rfl,by omega⟩,⟨rfl,by omega⟩,trivial⟩) ?_
 cbv;exact okA
theorem fL {l:List Nat}{i i':Nat}{x:Nat}{K:List PV->Prop}(h:l[i]?=some x)(hi:i'=i)(hK:K [.int .i64 (fun _=>(x:Int))]):ElOk 1 (fun _=>enc ci l) (fun _=>i') K :=
 ⟨⟨ci x,rfl,rfl,by show (enc ci l)[i']?=_;rw[hi];unfold enc;rw[List.getElem?_map,h];rfl,hK⟩⟩
theorem mD:Pg.funcs[101]?=some Tryz.f101:=by rw[xX];rfl
theorem zID (v r:Nat)(D:Dic)(p:Nat)(hl:D.ob.length=D.nb.length+1)(hn:D.nb.length<2^40)(hf:lfit (2^34) D.ob):Sound 101 [.ptr 1000000 0,.osl 1000004 3 (fun _=>0) (fun _=>D.ob.length)] (tO v r D p) [] (.int .i64 (fun _=>ent v D.nb D.ob)) (tO v r D p) []:=by
 refine yH mD rfl rfl rfl rfl rfl ?_;obtain⟨E,hE⟩:∃ E,ent v D.nb D.ob=E:=⟨_,rfl⟩;rw[hE];cbv;refine yB (σ:=Nat×Int) (fun s=>⟨[(0,.ptr 1000000 0),(1,.osl 1000004 3 (fun _=>0) (fun _=>D.ob.length)),(5,.int .i64 (fun _=>s.2)),(11,.osl 1000002 1 (fun _=>0) (fun _=>D.nb.length)),(12,.int .i64 (fun _=>(D.nb.length:Int))),(13,.int .i64 (fun _=>(s.1:Int)))],tO v r D p⟩)
  (fun s=>s.1<=D.nb.length/\(s.2=-1\/∃ k:Nat,s.2=k/\k<s.1)/\E=bY v D.nb D.ob (D.nb.drop s.1) s.1 s.2) (fun s=>D.nb.length-s.1)
  (0,-1) ⟨by omega,.inl rfl,by rw[<-hE];rfl⟩ (.le okZ (by cbv;repeat' first|exact trivial|exact lR|exact zA rfl|exact zC om|exact zN rfl|exact zL (by assumption)|exact zU (by assumption)|exact zI (by assumption)|exact⟨rfl⟩|apply And.intro) rfl) ?_
 intro s hs;obtain⟨j,b⟩:=s;obtain⟨g1,g2,g3⟩:=hs;dsimp only at g1 g2 g3;cbv;refine zF (fun h=>?_) (fun h=>?_)
 ·have hj:j<D.nb.length:=om;obtain⟨y,hy⟩:=zV hj;obtain⟨c,hc⟩:=zV (show j<D.ob.length by omega);have hd:D.nb.drop j=y::D.nb.drop (j+1):=by rw[List.drop_eq_getElem_cons hj];congr 1;rw[List.getElem?_eq_getElem hj] at hy;exact Option.some.inj hy
  (rw[hd,bY,getD_some hc] at g3;obtain⟨C,hC⟩:∃ C,zS c=C:=⟨_,rfl⟩;have fc:Fits (2^34) c:=hf c (List.mem_of_getElem? hc);have szC:C.sz (2^34):=by rw[<-hC];exact yZ fc);have qC:C.q=c:=by rw[<-hC];exact xF c
  (have csc:=s86 C (by have:=szC.n;omega);rw[qC] at csc;have hneg:xJ c<0↔c<0:=by unfold xJ;split <;> (try split) <;> constructor <;> intro _ <;> first|assumption|omega|(exfalso;omega)|grind);generalize xJ c=sc at *
  (have cfr:=jM v r D p y;cbv;refine⟨zQ om om,?_⟩;refine fL hy om ?_;cbv;refine yP id (.refl _) rfl okA cfr (by exact⟨⟨rfl,rfl⟩,⟨rfl,rfl⟩,⟨rfl,rfl⟩,⟨rfl,rfl⟩,⟨rfl,rfl⟩,trivial⟩) rfl rfl rfl rfl rfl rfl rfl rfl ?_;cbv;have hle:j+1<=D.nb.length:=hj;have hmu:D.nb.length-(j+1)<D.nb.length-j:=by omega);have keepg:b=-1\/∃ k:Nat,b=k/\k<j+1:=by rcases g2 with g2|⟨k,g2,g2'⟩;{exact .inl g2};{exact .inr ⟨k,g2,Nat.lt_succ_of_lt g2'⟩}
  have newg:((j:Nat):Int)=-1\/∃ k:Nat,((j:Nat):Int)=k/\k<j+1:=.inr ⟨j,rfl,Nat.lt_succ_self j⟩;refine yG (fun h1=>?_) (fun h1=>?_);{cbv;refine⟨zE om om,?_⟩;cbv;exact⟨(j+1,b),⟨hle,keepg,g3.trans (by rw[if_neg om])⟩,hmu,.le okZ (by cbv;repeat' first|exact trivial|exact lR|exact zA rfl|exact zC om|exact zN rfl|exact zL (by assumption)|exact zU (by assumption)|exact zI (by assumption)|exact⟨rfl⟩|apply And.intro) rfl⟩};cbv;refine⟨zQ om om,?_⟩;refine k7 hc om hC ?_;cbv;refine cA csc ?_;cbv;refine yG (fun h2=>?_) (fun h2=>?_)
  rotate_left
  {cbv;refine⟨zE om om,?_⟩;cbv;exact⟨(j+1,b),⟨hle,keepg,g3.trans (by rw[if_neg (fun q=>h2 (hneg.2 q.2.1))])⟩,hmu,.le okZ (by cbv;repeat' first|exact trivial|exact lR|exact zA rfl|exact zC om|exact zN rfl|exact zL (by assumption)|exact zU (by assumption)|exact zI (by assumption)|exact⟨rfl⟩|apply And.intro) rfl⟩};cbv;refine yG (fun h3=>?_) (fun h3=>?_);{cbv;refine⟨zE om om,?_⟩;cbv;exact⟨(j+1,(j:Int)),⟨hle,newg,g3.trans (by rw[if_pos ⟨om,hneg.1 h2,.inl h3⟩])⟩,hmu,.le okZ (by cbv;repeat' first|exact trivial|exact lR|exact zA rfl|exact zC om|exact zN rfl|exact zL (by assumption)|exact zU (by assumption)|exact zI (by assumption)|exact⟨rfl⟩|apply And.intro) rfl⟩};have h3':¬b<0:=h3;obtain⟨k,hk,hkj⟩:∃ k:Nat,b=k/\k<j:=by rcases g2 with g2|⟨k,g2,g2'⟩;{omega};{exact⟨k,g2,g2'⟩}
  subst hk;obtain⟨z,hz⟩:=zV (show k<D.nb.length by omega);rw[Int.toNat_natCast,getD_some hz] at g3;cbv;refine⟨zQ om om,?_⟩;refine fL hz om ?_;cbv;refine zF (fun h4=>?_) (fun h4=>?_);{cbv;refine⟨zE om om,?_⟩;cbv;exact⟨(j+1,(j:Int)),⟨hle,newg,g3.trans (by rw[if_pos ⟨om,hneg.1 h2,.inr om⟩])⟩,hmu,.le okZ (by cbv;repeat' first|exact trivial|exact lR|exact zA rfl|exact zC om|exact zN rfl|exact zL (by assumption)|exact zU (by assumption)|exact zI (by assumption)|exact⟨rfl⟩|apply And.intro) rfl⟩}
  ·(have hq:¬(v<=y/\c<0/\(((k:Nat):Int)<0\/y<z)):=fun q=>by rcases q.2.2 with q|q;{omega};{exact h4 om});cbv;refine⟨zE om om,?_⟩;cbv;exact⟨(j+1,(k:Int)),⟨hle,keepg,g3.trans (by rw[if_neg hq])⟩,hmu,.le okZ (by cbv;repeat' first|exact trivial|exact lR|exact zA rfl|exact zC om|exact zN rfl|exact zL (by assumption)|exact zU (by assumption)|exact zI (by assumption)|exact⟨rfl⟩|apply And.intro) rfl⟩
 ·(have hj:j=D.nb.length:=by (try dsimp only [zJ] at *);omega);have hEb:b=E:=by rw[g3,hj,List.drop_length];rfl
  subst hEb;cbv;refine qF (.refl _) rfl (by exact⟨⟨rfl,rfl⟩,⟨rfl,rfl⟩,⟨rfl,rfl⟩,⟨rfl,rfl⟩,⟨rfl,rfl⟩,trivial⟩) (by rfl) (by exact⟨⟨rfl,by omega⟩,⟨rfl,by omega⟩,⟨rfl,by omega⟩,⟨rfl,by omega⟩,⟨rfl,by omega⟩,trivial⟩) ?_;exact lR
theorem zI1 {ops:List Oper}{ps ps':PS}{K:PS->Prop}(k i0:Nat)(hw:Wk ps ps')(hd:u9 ops k=true)(hm:zEM ops k i0 []=true)(h:zEL ops k i0 0 [] ps' K):DrawK ops ps K:=⟨.inr (.inr (.inl ⟨k,i0,0,[],ps',hw,hd,hm,h⟩))⟩
theorem zLZ {l:List Nat}{i x:Nat}:(enc ci l).set i [D.int .i64 (x:Int)]=enc ci (l.set i x):=by rw[<-zF9];rfl
theorem zBX {α:Type}{P L:List α}{i:Nat}{x:α}(hl:P.length=L.length)(hx:L[i]?=some x):(P.take i++L.drop i)[i]?=some x:=by
 have hi:=(List.getElem?_eq_some_iff.1 hx).1;have h1:(P.take i).length=i:=by rw[List.length_take];omega
 rw[List.getElem?_append_right (by omega),h1,Nat.sub_self,List.getElem?_drop,Nat.add_zero];exact hx
theorem rO {α:Type}{P L:List α}{i:Nat}{x:α}(hl:P.length=L.length)(hx:P[i]?=some x):(P.take i++L.drop i).set i x=P.take (i+1)++L.drop (i+1):=by
 have hi:=(List.getElem?_eq_some_iff.1 hx).1;have h1:(P.take i).length=i:=by rw[List.length_take];omega
 have h2:(P.take (i+1)).length=i+1:=by rw[List.length_take];omega
 apply List.ext_getElem?;intro j;rw[List.getElem?_set];by_cases hj:i=j;{subst hj;rw[if_pos rfl,if_pos (by rw[List.length_append,h1,List.length_drop];omega),List.getElem?_append_left (by omega),List.getElem?_take_of_lt (by omega)];exact hx.symm};{rw[if_neg hj];by_cases hlt:j<i;{rw[List.getElem?_append_left (by omega),List.getElem?_append_left (by omega),List.getElem?_take_of_lt hlt,List.getElem?_take_of_lt (by omega)]};{rw[List.getElem?_append_right (by omega),List.getElem?_append_right (by omega),h1,h2,List.getElem?_drop,List.getElem?_drop];congr 1;omega}}
theorem jJ (n:Nat):List.replicate n [D.bool false,D.sl [],D.sl []]=enc cq (List.replicate n 0):=by
 have h:xM (cq 0)=[D.bool false,D.sl [],D.sl []]:=by
  (have:zS 0=⟨false,[],[]⟩:=by unfold zS;simp[z6]);unfold cq
  rw[this];rfl
 unfold enc;rw[List.map_replicate,h]
theorem zLK {G:List Rat}{n i:Nat}(hn:G.length=n)(hi:i<n):(G.take i++List.replicate (n-i) 0)[i]?=some 0:=by
 have h1:(G.take i).length=i:=by rw[List.length_take];omega
 rw[List.getElem?_append_right (by omega),h1,Nat.sub_self,List.getElem?_replicate,if_pos (by omega)]
theorem zDB {G:List Rat}{n i:Nat}{x:Rat}(hn:G.length=n)(hx:G[i]?=some x):(G.take i++List.replicate (n-i) 0).set i x=G.take (i+1)++List.replicate (n-(i+1)) 0:=by
 have hi:=(List.getElem?_eq_some_iff.1 hx).1;have h1:(G.take i).length=i:=by rw[List.length_take];omega
 have h2:(G.take (i+1)).length=i+1:=by rw[List.length_take];omega
 apply List.ext_getElem?;intro j;rw[List.getElem?_set];by_cases hj:i=j;{subst hj;rw[if_pos rfl,if_pos (by simp;omega),List.getElem?_append_left (by omega),List.getElem?_take_of_lt (by omega)];exact hx.symm}
 ·rw[if_neg hj];by_cases hlt:j<i;{rw[List.getElem?_append_left (by omega),List.getElem?_append_left (by omega),List.getElem?_take_of_lt hlt,List.getElem?_take_of_lt (by omega)]}
  ·(rw[List.getElem?_append_right (by omega),List.getElem?_append_right (by omega),h1,h2,List.getElem?_replicate,List.getElem?_replicate];have e1:j-i<n-i↔j-(i+1)<n-(i+1):=by omega);by_cases h:j-i<n-i
   {rw[if_pos h,if_pos (e1.1 h)]};{rw[if_neg h,if_neg (fun q=>h (e1.2 q))]}
theorem dJ (v r0 : Nat) (D : Dic) (p r e : Nat) (hw : D.wf) (hr : r < D.bs.length) (he : e < D.nb.length) (h0 : D.at r e ≠ 0) (hp : p < 2^40) (hn : D.nb.length < 2^30) (hb : D.bs.length < 2^30) (hf : D.fit (2^30)) :
    Sound 86 [.ptr 1000000 0, .int .i64 (fun _ => (r : Int)), .int .i64 (fun _ => (e : Int))] (tO v r0 D p) [] (.tup []) (tO v r0 (D.piv r e) (p + 1)) [] := by
  refine sF Tryz.f86 ?_
  have hlf := hw.len
  obtain ⟨old, hold⟩ := zV (l := D.fs) (i := r) (by omega)
  have hol := hw.row r old hold
  have hgo : D.fs.getD r [] = old := getD_some hold
  obtain ⟨o, ho⟩ := zV (show e < old.length by omega)
  have hgoe : old.getD e 0 = o := getD_some ho
  have ho0 : o ≠ 0 := by rw [← hgoe, ← hgo]; exact h0
  obtain ⟨b, hbr⟩ := zV hr
  obtain ⟨y, hye⟩ := zV he
  have fold : lfit (2^30) old := hf.fs old (List.mem_of_getElem? hold)
  have fo := fold o (List.mem_of_getElem? ho)
  obtain ⟨O, hO⟩ : ∃ O, zS o = O := ⟨_, rfl⟩
  have szO : O.sz (2^30) := by rw [← hO]; exact yZ fo
  have qO : O.q = o := by rw [← hO]; exact xF o
  obtain ⟨F, hF⟩ : ∃ F, vF old e = F := ⟨_, rfl⟩
  have hFl : F.length = D.nb.length + 1 := by rw [← hF, gG, hol]
  have hrow := qS D.fs r
  rw [hgo] at hrow
  obtain ⟨D', hD'⟩ : ∃ D', D.piv r e = D' := ⟨_, rfl⟩
  rw [hD']
  cbv
  refine ⟨zE om om, ?_⟩
  cbv
  refine ⟨zQ om om, ?_⟩
  refine ⟨_, .focus 1000003 30 (fun _ => r) rfl rfl (dF (by show r < (D.fs.map (enc cq)).length; rw [List.length_map]; omega)), ?_⟩
  cbv
  refine dX om ?_
  cbv
  have hoL : ((D.fs.map (enc cq)).getD r []).length = old.length := by rw [hrow, zO]
  refine ⟨yJ om (by rw [hoL]; (try dsimp only [zJ] at *); omega), wM om om, ?_⟩
  obtain ⟨Z, hZ⟩ : ∃ Z, zS 0 = Z := ⟨_, rfl⟩
  obtain ⟨G, hG⟩ : ∃ G, (old.map fun c => -c / o).set e 0 = G := ⟨_, rfl⟩
  have hGl : G.length = old.length := by rw [← hG, List.length_set, List.length_map]
  have hGF : G.set e (1 / o) = F := by rw [← hG, ← hF, List.set_set]; unfold vF; rw [hgoe]
  refine yB (σ := Nat × List Rat) (fun s => ⟨[(0, .ptr 1000000 0), (1, .int .i64 (fun _ => (r : Int))), (2, .int .i64 (fun _ => (e : Int))), (6, .osl 30 3 (fun _ => 0) (fun _ => old.length)), (7, .osl 27 3 (fun _ => 0) (fun _ => old.length)), (28, .osl 30 3 (fun _ => 0) (fun _ => old.length)), (29, .int .i64 (fun _ => (old.length : Int))), (30, .int .i64 (fun _ => (s.1 : Int)))],
      [(1000000, .box [.int .i64 (fun _ => (v : Int)), .int .i64 (fun _ => (r0 : Int)), .osl 1000001 1 (fun _ => 0) (fun _ => D.bs.length), .osl 1000002 1 (fun _ => 0) (fun _ => D.nb.length), .osl 1000003 1 (fun _ => 0) (fun _ => D.fs.length), .osl 1000004 3 (fun _ => 0) (fun _ => D.ob.length), .int .i64 (fun _ => ((p + 1 : Nat) : Int))]),
       (1000001, .arr 1 (fun _ => enc ci D.bs)), (1000002, .arr 1 (fun _ => enc ci D.nb)), (1000003, .mat 3 (fun _ => D.fs.map (enc cq)) [(.osl 30 3 (fun _ => 0) (fun _ => old.length), fun _ => r)]), (1000004, .arr 3 (fun _ => enc cq D.ob)), (30, .arr 3 (fun _ => enc cq old)), (27, .arr 3 (fun _ => enc cq s.2))]⟩)
    (fun s => s.1 ≤ old.length ∧ s.2 = G.take s.1 ++ List.replicate (old.length - s.1) 0) (fun s => old.length - s.1)
    (0, List.replicate old.length 0) ⟨by omega, by simp⟩ (.le (by cbv; repeat' first | exact trivial | exact lR | exact z5 rfl (by first | rfl | exact hoL | (show Int.toNat _ = _; rw [hoL]; rfl)) | exact zC (by rw [hoL]) | exact zC om | apply And.intro) (by
      cbv
      repeat' first | exact trivial | exact lR | exact zA rfl | exact zC om | exact ⟨rfl⟩ | exact z5 rfl hoL | exact zA hrow | exact zA (by show List.replicate (Int.toNat _) _ = _; rw [hoL]; exact jJ _) | apply And.intro) rfl) ?_
  intro s hs
  obtain ⟨j, m⟩ := s
  obtain ⟨g1, g2⟩ := hs
  dsimp only at g1 g2
  cbv
  refine zF (fun h => ?_) (fun h => ?_)
  · have hj : j < old.length := om
    obtain ⟨c, hc⟩ := zV hj
    have fc := fold c (List.mem_of_getElem? hc)
    obtain ⟨C, hC⟩ : ∃ C, zS c = C := ⟨_, rfl⟩
    have szC : C.sz (2^30) := by rw [← hC]; exact yZ fc
    have qC : C.q = c := by rw [← hC]; exact xF c
    have csc := s86 C (by have := szC.n; omega)
    rw [qC] at csc
    obtain ⟨N, hN⟩ : ∃ N, zS (-c) = N := ⟨_, rfl⟩
    have fn : Fits (2^30) (-c) := bX fc
    have szN : N.sz (2^30) := by rw [← hN]; exact yZ fn
    have qN : N.q = -c := by rw [← hN]; exact xF _
    have cn := zL0 C (szC.mono (by decide))
    rw [qC, hN] at cn
    obtain ⟨W, hW⟩ : ∃ W, zS (-c / o) = W := ⟨_, rfl⟩
    have cd := zJ9 N O (szN.mono (by decide)) (szO.mono (by decide)) (by rw [qO]; exact ho0)
    rw [qN, qO, hW] at cd
    have hmj : m[j]? = some 0 := by rw [g2]; exact zLK hGl hj
    have hGe : j = e → G[j]? = some 0 := fun q => by rw [← hG, q, List.getElem?_set, if_pos rfl, if_pos (by rw [List.length_map]; omega)]
    have hGn : j ≠ e → G[j]? = some (-c / o) := fun q => by rw [← hG, List.getElem?_set, if_neg (fun h => q h.symm), List.getElem?_map, hc]; rfl
    have hst0 : j = e ∨ c = 0 → m = G.take (j + 1) ++ List.replicate (old.length - (j + 1)) 0 := fun q => by
      have hg : G[j]? = some 0 := by
        by_cases q2 : j = e
        · exact hGe q2
        · rw [hGn q2, q.resolve_left q2]; congr 1; rw [Rat.neg_zero, Rat.div_def, Rat.zero_mul]
      have := zDB hGl hg
      rw [← g2, gR hmj] at this
      exact this
    have hst : j ≠ e → m.set j (-c / o) = G.take (j + 1) ++ List.replicate (old.length - (j + 1)) 0 := fun q => by rw [g2]; exact zDB hGl (hGn q)
    have hle : j + 1 ≤ old.length := hj
    have hmu : old.length - (j + 1) < old.length - j := by omega
    have hsg : xJ c = 0 → c = 0 := fun h => jD.1 h
    generalize xJ c = sc at *
    cbv
    refine ⟨zQ om om, ?_⟩
    refine k7 hc om hC ?_
    cbv
    refine yG (fun h1 => ?_) (fun h1 => ?_)
    · cbv
      refine ⟨zE om om, ?_⟩
      cbv
      exact ⟨(j + 1, m), ⟨hle, hst0 (.inl om)⟩, hmu, .le okZ (by cbv; repeat' first | exact trivial | exact lR | exact zA rfl | exact zC om | exact zN rfl | exact zL (by assumption) | exact zU (by assumption) | exact zI (by assumption) | exact ⟨rfl⟩ | apply And.intro) rfl⟩
    cbv
    refine cA csc ?_
    cbv
    refine zF (fun h2 => ?_) (fun h2 => ?_)
    · cbv
      refine ⟨zE om om, ?_⟩
      cbv
      exact ⟨(j + 1, m), ⟨hle, hst0 (.inr (hsg h2))⟩, hmu, .le okZ (by cbv; repeat' first | exact trivial | exact lR | exact zA rfl | exact zC om | exact zN rfl | exact zL (by assumption) | exact zU (by assumption) | exact zI (by assumption) | exact ⟨rfl⟩ | apply And.intro) rfl⟩
    cbv
    refine zGC 14 13 (by cbv) (by cbv) ?_
    cbv
    refine dA cn ?_
    cbv
    refine ⟨zQ om om, ?_⟩
    refine k7 ho om hO ?_
    cbv
    refine dA cd ?_
    cbv
    refine ⟨zQ om om, ?_⟩
    refine k7 hmj om hZ ?_
    cbv
    refine ⟨zE om om, ?_⟩
    cbv
    exact ⟨(j + 1, m.set j (-c / o)), ⟨hle, hst om⟩, hmu, .le okZ (by
      cbv
      repeat' first | exact trivial | exact lR | exact zA rfl | exact ⟨rfl⟩ | exact zA (by show (enc cq m).set (0 + j) _ = enc cq (m.set j (-c / o)); rw [Nat.zero_add]; exact cX hW) | apply And.intro) rfl⟩
  · have hj : j = old.length := by (try dsimp only [zJ] at *); omega
    have hm : m = G := by rw [g2, hj, ← hGl, List.take_length, Nat.sub_self]; simp
    subst hm
    obtain ⟨U, hU⟩ : ∃ U, zS ((1 : Int) : Rat) = U := ⟨_, rfl⟩
    have c1 := s104 1 (by decide) (by decide)
    rw [hU] at c1
    have qU : U.q = 1 := by rw [← hU]; exact xF _
    have szU : U.sz (2^30) := by rw [← hU]; exact yZ (fits_one.mono (by decide))
    obtain ⟨V, hV⟩ : ∃ V, zS (1 / o) = V := ⟨_, rfl⟩
    have cd := zJ9 U O (szU.mono (by decide)) (szO.mono (by decide)) (by rw [qO]; exact ho0)
    rw [qU, qO, hV] at cd
    have hme : m[e]? = some 0 := by rw [← hG, List.getElem?_set, if_pos rfl, if_pos (by rw [List.length_map]; omega)]
    cbv
    refine zGC 13 12 (by cbv) (by cbv) ?_
    cbv
    refine dA c1 ?_
    cbv
    refine ⟨zQ om om, ?_⟩
    refine k7 ho om hO ?_
    cbv
    refine dA cd ?_
    cbv
    refine ⟨zQ om om, ?_⟩
    refine k7 hme om hZ ?_
    cbv
    refine zI1 (ps' := ⟨[(0, .ptr 1000000 0), (1, .int .i64 (fun _ => (r : Int))), (2, .int .i64 (fun _ => (e : Int))), (7, .osl 27 3 (fun _ => 0) (fun _ => F.length))],
      [(1000000, .box [.int .i64 (fun _ => (v : Int)), .int .i64 (fun _ => (r0 : Int)), .osl 1000001 1 (fun _ => 0) (fun _ => D.bs.length), .osl 1000002 1 (fun _ => 0) (fun _ => D.nb.length), .osl 1000003 1 (fun _ => 0) (fun _ => D.fs.length), .osl 1000004 3 (fun _ => 0) (fun _ => D.ob.length), .int .i64 (fun _ => ((p + 1 : Nat) : Int))]),
       (1000001, .arr 1 (fun _ => enc ci D.bs)), (1000002, .arr 1 (fun _ => enc ci D.nb)), (1000003, .mat 3 (fun _ => D.fs.map (enc cq)) [(.osl 30 3 (fun _ => 0) (fun _ => old.length), fun _ => r)]), (1000004, .arr 3 (fun _ => enc cq D.ob)), (30, .arr 3 (fun _ => enc cq old)), (27, .arr 3 (fun _ => enc cq F))]⟩) 26 25
      (.le (by cbv; repeat' first | exact trivial | exact lR | exact z5 rfl (by omega) | apply And.intro) (by
        cbv
        repeat' first | exact trivial | exact lR | exact zA rfl | exact ⟨rfl⟩ | exact zA (by show (enc cq m).set (0 + e) _ = enc cq F; rw [Nat.zero_add, ← hGF]; exact cX hV) | apply And.intro) rfl) (by cbv) (by cbv) ?_
    cbv
    refine ⟨zQ om om, ?_⟩
    refine fL hye om ?_
    cbv
    refine ⟨zQ om om, ?_⟩
    refine fL hbr om ?_
    cbv
    refine ⟨zQ om om, ?_⟩
    refine fL hbr om ?_
    cbv
    refine ⟨zQ om om, ?_⟩
    refine fL hye om ?_
    cbv
    obtain ⟨P, hP⟩ : ∃ P, (c7 r e F 0 D.fs).set r old = P := ⟨_, rfl⟩
    have hPl : P.length = D.fs.length := by rw [← hP, List.length_set, r5]
    have hfF : lfit (2^32) F := by rw [← hF]; exact (oV (by decide) fold).mono (by decide)
    refine yB (σ := Nat × List (List Rat)) (fun s => ⟨[(0, .ptr 1000000 0), (1, .int .i64 (fun _ => (r : Int))), (2, .int .i64 (fun _ => (e : Int))), (7, .osl 27 3 (fun _ => 0) (fun _ => F.length)), (99, .int .i64 (fun _ => (D.fs.length : Int))), (100, .int .i64 (fun _ => (s.1 : Int)))],
        [(1000000, .box [.int .i64 (fun _ => (v : Int)), .int .i64 (fun _ => (r0 : Int)), .osl 1000001 1 (fun _ => 0) (fun _ => D.bs.length), .osl 1000002 1 (fun _ => 0) (fun _ => D.nb.length), .osl 1000003 1 (fun _ => 0) (fun _ => D.fs.length), .osl 1000004 3 (fun _ => 0) (fun _ => D.ob.length), .int .i64 (fun _ => ((p + 1 : Nat) : Int))]),
         (1000001, .arr 1 (fun _ => enc ci (D.bs.set r y))), (1000002, .arr 1 (fun _ => enc ci (D.nb.set e b))), (1000003, .mat 3 (fun _ => s.2.map (enc cq)) [(.osl 30 3 (fun _ => 0) (fun _ => old.length), fun _ => r)]), (1000004, .arr 3 (fun _ => enc cq D.ob)), (30, .arr 3 (fun _ => enc cq old)), (27, .arr 3 (fun _ => enc cq F))]⟩)
      (fun s => s.1 ≤ D.fs.length ∧ s.2 = P.take s.1 ++ D.fs.drop s.1) (fun s => D.fs.length - s.1)
      (0, D.fs) ⟨by omega, by simp⟩ (.le okZ (by
        cbv
        repeat' first | exact trivial | exact lR | exact zA rfl | exact ⟨rfl⟩ | exact zA (by show (enc ci D.bs).set (0 + r) _ = _; rw [Nat.zero_add]; exact zLZ) | exact zA (by show (enc ci D.nb).set (0 + e) _ = _; rw [Nat.zero_add]; exact zLZ) | apply And.intro) rfl) ?_
    intro s hs
    obtain ⟨i, M⟩ := s
    obtain ⟨k1, k2⟩ := hs
    dsimp only at k1 k2
    cbv
    refine zF (fun hh => ?_) (fun hh => ?_)
    · have hi : i < D.fs.length := om
      obtain ⟨l, hl⟩ := zV hi
      have hll := hw.row i l hl
      have hMl : M.length = D.fs.length := by rw [k2, List.length_append, List.length_take, List.length_drop]; omega
      have hMi : M[i]? = some l := by rw [k2]; exact zBX hPl hl
      obtain ⟨S, hS⟩ : ∃ S, sbs l e F = S := ⟨_, rfl⟩
      have csub := zJL l F e (by omega) (by omega) (by omega) ((hf.fs l (List.mem_of_getElem? hl)).mono (by decide)) hfF
      rw [hS] at csub
      have hPi : i ≠ r → P[i]? = some S := fun q => by rw [← hP, List.getElem?_set, if_neg (fun h => q h.symm), jU, hl, Nat.zero_add]; simp [q, hS]
      have hPr : i = r → P[i]? = some l := fun q => by
        subst q
        rw [← hP, List.getElem?_set, if_pos rfl, if_pos (by rw [r5]; omega)]
        rw [hold] at hl
        exact hl
      have hle : i + 1 ≤ D.fs.length := hi
      have hmu : D.fs.length - (i + 1) < D.fs.length - i := by omega
      have hstr : i = r → M = P.take (i + 1) ++ D.fs.drop (i + 1) := fun q => by
        have := rO hPl (hPr q)
        rw [← k2, gR hMi] at this
        exact this
      have hst : i ≠ r → M.set i S = P.take (i + 1) ++ D.fs.drop (i + 1) := fun q => by rw [k2]; exact rO hPl (hPi q)
      have hSl : S.length = l.length := by rw [← hS, nG]
      have hrowi := qS M i
      rw [getD_some hMi] at hrowi
      cbv
      refine zF (fun h5 => ?_) (fun h5 => ?_)
      · cbv
        refine ⟨zE om om, ?_⟩
        cbv
        exact ⟨(i + 1, M), ⟨hle, hstr om⟩, hmu, .le okZ (by cbv; repeat' first | exact trivial | exact lR | exact zA rfl | exact zC om | exact zN rfl | exact zL (by assumption) | exact zU (by assumption) | exact zI (by assumption) | exact ⟨rfl⟩ | apply And.intro) rfl⟩
      cbv
      refine ⟨zQ om om, ?_⟩
      refine ⟨_, .focus 1000003 31 (fun _ => i) rfl rfl (zLJ (by show i < (M.map (enc cq)).length; rw [List.length_map]; omega) (by show r ≠ i; (try dsimp only [zJ] at *); omega)), ?_⟩
      cbv
      refine dX om ?_
      cbv
      have hril : ((M.map (enc cq)).getD i []).length = l.length := by rw [hrowi, zO]
      refine yP (ps' := ⟨[(0, .ptr 1000000 0), (1, .int .i64 (fun _ => (r : Int))), (2, .int .i64 (fun _ => (e : Int))), (7, .osl 27 3 (fun _ => 0) (fun _ => F.length)), (99, .int .i64 (fun _ => (D.fs.length : Int))), (100, .int .i64 (fun _ => (i : Int))), (112, .osl 31 3 (fun _ => 0) (fun _ => l.length)), (113, .int .i64 (fun _ => (e : Int))), (114, .osl 27 3 (fun _ => 0) (fun _ => F.length))],
        [(1000000, .box [.int .i64 (fun _ => (v : Int)), .int .i64 (fun _ => (r0 : Int)), .osl 1000001 1 (fun _ => 0) (fun _ => D.bs.length), .osl 1000002 1 (fun _ => 0) (fun _ => D.nb.length), .osl 1000003 1 (fun _ => 0) (fun _ => D.fs.length), .osl 1000004 3 (fun _ => 0) (fun _ => D.ob.length), .int .i64 (fun _ => ((p + 1 : Nat) : Int))]),
         (1000001, .arr 1 (fun _ => enc ci (D.bs.set r y))), (1000002, .arr 1 (fun _ => enc ci (D.nb.set e b))), (1000003, .mat 3 (fun _ => M.map (enc cq)) [(.osl 31 3 (fun _ => 0) (fun _ => l.length), fun _ => i), (.osl 30 3 (fun _ => 0) (fun _ => old.length), fun _ => r)]), (1000004, .arr 3 (fun _ => enc cq D.ob)), (30, .arr 3 (fun _ => enc cq old)), (27, .arr 3 (fun _ => enc cq F)), (31, .arr 3 (fun _ => enc cq l))]⟩) (fun n => match nqb n 1000001 with | true => 31 | false => 27)
        (.le (by cbv; repeat' first | exact trivial | exact lR | exact z5 rfl hril | apply And.intro) (by
          cbv
          repeat' first | exact trivial | exact lR | exact zA rfl | exact ⟨rfl⟩ | exact z5 rfl hril | exact zA hrowi | apply And.intro) rfl) rfl okA csub (by exact ⟨⟨rfl, rfl⟩, ⟨rfl, rfl⟩, trivial⟩) rfl rfl rfl rfl rfl rfl rfl rfl ?_
      cbv
      refine ⟨zE om om, ?_⟩
      cbv
      refine ⟨(i + 1, M.set i S), ⟨hle, hst om⟩, hmu, .trans (.unfocus 1000003 31 [] [(.osl 30 3 (fun _ => 0) (fun _ => old.length), fun _ => r)] rfl rfl rfl ⟨rfl, by show l.length = (enc cq S).length; rw [zO, hSl]⟩) (.le okZ (by
        cbv
        repeat' first | exact trivial | exact lR | exact zA rfl | exact ⟨rfl⟩ | exact ⟨by show (M.map (enc cq)).set i (enc cq S) = (M.set i S).map (enc cq); exact map_set _ _ _⟩ | apply And.intro) rfl)⟩
    · have hi : i = D.fs.length := by (try dsimp only [zJ] at *); omega
      have hM : M = P := by rw [k2, hi, List.drop_length, List.append_nil, ← hPl, List.take_length]
      obtain ⟨T, hT⟩ : ∃ T, sbs D.ob e F = T := ⟨_, rfl⟩
      have hwo := hw.ob
      have csub := zJL D.ob F e (by omega) (by omega) (by omega) (hf.ob.mono (by decide)) hfF
      rw [hT] at csub
      have hPM : M.set r F = c7 r e F 0 D.fs := by
        rw [hM, ← hP, List.set_set]
        refine gR ?_
        rw [jU, hold, Nat.zero_add]
        simp
      have hDD : D' = ⟨D.bs.set r y, D.nb.set e b, M.set r F, T⟩ := by
        rw [← hD', hPM]
        unfold Dic.piv
        simp only [hgo, hF, getD_some hye, getD_some hbr, hT]
      have hTl : T.length = D.ob.length := by rw [← hT, nG]
      have hMl : M.length = D.fs.length := by rw [hM, hPl]
      have q1 : D'.bs = D.bs.set r y := by rw [hDD]
      have q2 : D'.nb = D.nb.set e b := by rw [hDD]
      have q3 : D'.fs = M.set r F := by rw [hDD]
      have q4 : D'.ob = T := by rw [hDD]
      clear hDD
      cbv
      refine yP (fun n => match nqb n 1000001 with | true => 1000004 | false => 27) (.refl _) rfl okA csub (by exact ⟨⟨rfl, rfl⟩, ⟨rfl, rfl⟩, trivial⟩) rfl rfl rfl rfl rfl rfl rfl rfl ?_
      cbv
      refine ⟨zQ om om, ?_⟩
      refine sto0 om ?_
      cbv
      refine qF (ps' := ⟨[], tO v r0 D' (p + 1)⟩) (.trans (.unfocus 1000003 27 [] [] rfl rfl rfl ⟨rfl, by show F.length = (enc cq F).length; rw [zO]⟩) (.le okZ (by
        cbv
        repeat' first | exact trivial | exact lR | exact zA rfl | exact ⟨rfl⟩ | exact z5 rfl (by first | (rw [q1, List.length_set]; done) | (rw [q2, List.length_set]; done) | (rw [q3, List.length_set, hMl]; done) | (rw [q4]; exact hTl.symm)) | exact zA (by rw [q1]) | exact zA (by rw [q2]) | exact zA (by rw [q4]) | exact ⟨by show (M.map (enc cq)).set r (enc cq F) = D'.fs.map (enc cq); rw [q3]; exact map_set _ _ _⟩ | apply And.intro) rfl)) rfl
        (by exact ⟨⟨rfl, rfl⟩, ⟨rfl, rfl⟩, ⟨rfl, rfl⟩, ⟨rfl, rfl⟩, ⟨rfl, rfl⟩, trivial⟩) (by rfl) (by exact ⟨⟨rfl, by omega⟩, ⟨rfl, by omega⟩, ⟨rfl, by omega⟩, ⟨rfl, by omega⟩, ⟨rfl, by omega⟩, trivial⟩) ?_
      exact trivial
end Go.Proofs.YtfainocfaddbdaaGreat
