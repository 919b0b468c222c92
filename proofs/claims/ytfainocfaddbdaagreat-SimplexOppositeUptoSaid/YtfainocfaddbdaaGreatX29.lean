/- A part of the proof: SyA, SyB, SyC, SyD. -/
import Derived.Test.YtfainocfaddbdaaGreatX25
import Derived.Test.YtfainocfaddbdaaGreatX27
set_option linter.all false
namespace Go.Proofs.YtfainocfaddbdaaGreat
open Go
set_option maxRecDepth 100000
set_option maxHeartbeats 4000000
theorem zPQ (x y:R):mkRat (sgn (x.neg != y.neg) (val x.num * y.d)) (x.d * val y.num)=x.q / y.q:=by
 rw[Rat.div_def,R.q,R.q,←Rat.divInt_ofNat,←Rat.divInt_ofNat,←Rat.divInt_ofNat,Rat.inv_divInt,Rat.divInt_mul_divInt]
 unfold R.n sgn
 cases x.neg <;> cases y.neg <;> simp [Rat.divInt_neg',Int.neg_mul,Int.mul_neg]
theorem jP {q:Rat}:yW q=0↔q=0:=by unfold yW;split <;> (try split) <;> constructor <;> grind
theorem zNW (x:R)(hx:x.sz (2^36)):zD 130 [rv x] (rv (zK (-x.q))):=by
 refine sF Tryz.f130 ?_
 have cc:=s161 ⟨!x.neg,x.num,x.den⟩ ⟨hx.n,hx.d⟩
 rw[zLV] at cc
 generalize zK (-x.q)=W at *
 obtain⟨a,b,c⟩:=x
 generalize hna:(!a)=na at *
 cbv
 refine xX rfl (by exact⟨⟨kY hna.symm,lR,lR,trivial⟩,trivial⟩) cc rfl ?_
 cbv
 (refine rC ?_;cbv)
 exact okA
theorem zLR (x y:R)(hx:x.sz (2^34))(hy:y.sz (2^34))(h0:y.q≠0):zD 129 [rv x,rv y] (.tup [rv (zK (x.q / y.q)),.int .i64 (fun _=>(0:Int))]):=by
 refine sF Tryz.f129 ?_
 have h1:=hx.n
 have h2:=hx.d
 have h3:=hy.n
 have h4:=hy.d
 have h7:=uJ x.den
 have h8:=uJ y.den
 have hyn:val y.num≠0:=fun h=>h0 (by
  have:y.n=0:=by unfold R.n;rw[h];simp [sgn]
  rw[R.q,this];simp)
 have csg:=s86 y (by omega)
 have hsg:¬ yW y.q=0:=fun h=>h0 (jP.1 h)
 have cux:=s195 x (by omega)
 have cuy:=s195 y (by omega)
 have cm:=s194 (xC x.den) y.num (by omega) (by omega)
 have hml:=jF (xC x.den) y.num
 rw[vQ] at cm hml
 have cn:=s194 x.num (xC y.den) (by omega) (by omega)
 have hnl:=jF x.num (xC y.den)
 rw[vQ] at cn hnl
 have cq:=s193 (x.neg != y.neg) (zE (val x.num * y.d)) (zE (x.d * val y.num)) (by omega) (by omega) (by rw[zN];exact Nat.mul_ne_zero x.d_ne hyn)
 rw[zN,zN,zPQ] at cq
 have hb:(x.neg != y.neg)=!decide (x.neg=y.neg):=by cases x.neg <;> cases y.neg <;> rfl
 clear hml hnl hx hy h0
 generalize zK (x.q / y.q)=W at *
 generalize yW y.q=sg at *
 generalize zE (x.d * val y.num)=M at *
 generalize zE (val x.num * y.d)=P at *
 generalize xC x.den=ux at *
 generalize xC y.den=uy at *
 obtain⟨a,b,c⟩:=x
 obtain⟨a',b',c'⟩:=y
 simp only at *
 generalize (a != a')=nb at *
 cbv
 refine cA csg ?_
 cbv
 refine gD hsg ?_
 cbv
 refine zY 16 (by cbv) ?_
 cbv
 refine dA cuy ?_
 cbv
 refine dA cn ?_
 cbv
 refine dA cux ?_
 cbv
 refine dA cm ?_
 cbv
 refine gQ (by exact⟨kY hb,lR,lR,trivial⟩) cq rfl ?_
 cbv
 (refine rC ?_;cbv)
 exact okA
def cq (q:Rat):List PV:=[.bool (fun _=>(zK q).neg),nat (zK q).num,nat (zK q).den]
def ci (n:Nat):List PV:=[.int .i64 (fun _=>(n:Int))]
def tO (v r : Nat) (D : Dic) (p : Nat) : List (Nat × Obj') :=
  [(1000000, .box [.int .i64 (fun _ => (v : Int)), .int .i64 (fun _ => (r : Int)), .osl 1000001 1 (fun _ => 0) (fun _ => D.bs.length), .osl 1000002 1 (fun _ => 0) (fun _ => D.nb.length), .osl 1000003 1 (fun _ => 0) (fun _ => D.fs.length), .osl 1000004 3 (fun _ => 0) (fun _ => D.ob.length), .int .i64 (fun _ => (p : Int))]),
   (1000001, .arr 1 (fun _ => enc ci D.bs)), (1000002, .arr 1 (fun _ => enc ci D.nb)), (1000003, .mat 3 (fun _ => D.fs.map (enc cq)) []), (1000004, .arr 3 (fun _ => enc cq D.ob))]
theorem qS {rs:List ResultVar}{r:PV}{ps ps':PS}{kept:List (Nat × Obj')}(hw:Wk ps ps')(h3:lv r=true)(h4:uB id ps'.objs kept)(h5:ndO (zW id kept)=true)(h6:eP id kept)(h:match fI ps' rs with
  | some l=>les (tI l) (ren id r)
  | none=>False):RetOk rs r kept [] ps:=by
 cases h1:fI ps' rs with
 | none=>rw[h1] at h;exact h.elim
 | some l=>rw[h1] at h;exact⟨ps',l,id,hw,h1,fS h,h3,by rw[List.append_nil];exact h4,by rw[List.append_nil];exact h5,h6⟩
theorem eR:Pg.funcs[51]?=some Tryz.f51:=by rw[w7];rfl
theorem jW (v r:Nat)(D:Dic)(p:Nat)(x:Nat):Sound 51 [.ptr 1000000 0,.int .i64 (fun _=>(x:Int))] (tO v r D p) [] (.bool (fun _=>decide ((x:Int)<(v:Int)))) (tO v r D p) []:=by
 refine xR eR rfl rfl rfl rfl rfl ?_
 cbv
 refine qS (.refl _) rfl (by exact⟨⟨rfl,rfl⟩,⟨rfl,rfl⟩,⟨rfl,rfl⟩,⟨rfl,rfl⟩,⟨rfl,rfl⟩,trivial⟩) (by rfl) (by exact⟨⟨rfl,by omega⟩,⟨rfl,by omega⟩,⟨rfl,by omega⟩,⟨rfl,by omega⟩,⟨rfl,by omega⟩,trivial⟩) ?_
 exact lR
abbrev cR (X:R):List PV:=[.bool (fun _=>X.neg),nat X.num,nat X.den]
theorem jL {l:List Rat}{i i':Nat}{x:Rat}{X:R}{K:List PV→Prop}(h:l[i]?=some x)(hi:i'=i)(hX:zK x=X)(hK:K (cR X)):ElOk 3 (fun _=>enc cq l) (fun _=>i') K :=
 ⟨⟨cR X,rfl,rfl,by show (enc cq l)[i']?=_;rw[hi];unfold enc;rw[List.getElem?_map,h,←hX];rfl,hK⟩⟩
theorem bR {l:List Rat}{i:Nat}{x:Rat}{X:R}(hX:zK x=X):(enc cq l).set i [D.bool X.neg,D.sl (lm X.num),D.sl (lm X.den)]=enc cq (l.set i x):=by
 subst hX
 rw[←sN]
 rfl
theorem zQC {a:Rat}{l f:List Rat}{i:Nat}{x:Rat}(hl:l.length=f.length)(hx:l[i]?=some x):((jM a l f).take i++l.drop i)[i]?=some x:=by
 have hi:=(List.getElem?_eq_some_iff.1 hx).1
 have h1:((jM a l f).take i).length=i:=by rw[List.length_take,jI];omega
 rw[List.getElem?_append_right (by omega),h1,Nat.sub_self,List.getElem?_drop,Nat.add_zero]
 exact hx
theorem zHO {a:Rat}{l f:List Rat}{i:Nat}{x c y:Rat}(hl:l.length=f.length)(hx:l[i]?=some x)(hc:f[i]?=some c)(hy:y=x+a * c):((jM a l f).take i++l.drop i).set i y=(jM a l f).take (i+1)++l.drop (i+1):=by
 have hi:=(List.getElem?_eq_some_iff.1 hx).1
 have h1:((jM a l f).take i).length=i:=by rw[List.length_take,jI];omega
 have hg:(jM a l f)[i]?=some y:=by
  have h2:=mJ a l f i hl
  have h3:i<(jM a l f).length:=by rw[jI];exact hi
  rw[List.getElem?_eq_getElem h3]
  rw[List.getD_eq_getElem?_getD,List.getElem?_eq_getElem h3,List.getD_eq_getElem?_getD,hx,List.getD_eq_getElem?_getD,hc] at h2
  simp only[Option.getD_some] at h2
  rw[h2,hy]
 apply List.ext_getElem?
 intro j
 rw[List.getElem?_set]
 have h4:((jM a l f).take (i+1)).length=i+1:=by rw[List.length_take,jI];omega
 by_cases hj:i=j
 ·subst hj
  rw[if_pos rfl,if_pos (by rw[List.length_append,h1,List.length_drop];omega),List.getElem?_append_left (by omega),List.getElem?_take_of_lt (by omega)]
  exact hg.symm
 ·rw[if_neg hj]
  by_cases hlt:j<i
  ·rw[List.getElem?_append_left (by omega),List.getElem?_append_left (by omega),List.getElem?_take_of_lt hlt,List.getElem?_take_of_lt (by omega)]
  ·rw[List.getElem?_append_right (by omega),List.getElem?_append_right (by omega),h1,h4,List.getElem?_drop,List.getElem?_drop]
   congr 1
   omega
theorem fF {α:Type}{l:List α}{i:Nat}{x:α}(h:l[i]?=some x):l.set i x=l:=by
 apply List.ext_getElem?
 intro j
 rw[List.getElem?_set]
 by_cases hj:i=j
 ·subst hj;rw[if_pos rfl,if_pos (List.getElem?_eq_some_iff.1 h).1,h]
 ·rw[if_neg hj]
theorem zKZ (l f:List Rat)(e:Nat)(hl:l.length=f.length)(he:e<l.length)(hn:l.length<2^40)(h1:lfit (2^32) l)(h2:lfit (2^32) f) :
  Sound 131 [.osl 1000001 3 (fun _=>0) (fun _=>l.length),.int .i64 (fun _=>(e:Int)),.osl 1000002 3 (fun _=>0) (fun _=>f.length)] [(1000001,.arr 3 (fun _=>enc cq l)),(1000002,.arr 3 (fun _=>enc cq f))] [] (.tup []) [(1000001,.arr 3 (fun _=>enc cq (sbs l e f))),(1000002,.arr 3 (fun _=>enc cq f))] []:=by
 refine sF Tryz.f131 ?_
 obtain⟨a,ha⟩:=zU he
 have hga:l.getD e 0=a:=getD_some ha
 have fa:Fits (2^32) a:=h1 a (List.mem_of_getElem? ha)
 obtain⟨A,hA⟩:∃ A,zK a=A:=⟨_,rfl⟩
 have szA:A.sz (2^32):=by rw[←hA];exact z7 fa
 have qA:A.q=a:=by rw[←hA];exact yN a
 have csg:=s86 A (by have:=szA.n;omega)
 rw[qA] at csg
 have hs0:sbs l e f=jM a (l.set e 0) f:=by unfold sbs;rw[hga]
 have hsz:yW a=0→sbs l e f=l:=fun h=>zJK (by rw[hga];exact jP.1 h) hl
 generalize hsg:yW a=sg at *
 obtain⟨L,hL⟩:∃ L,sbs l e f=L:=⟨_,rfl⟩
 rw[hL] at hs0 hsz ⊢
 obtain⟨Z,hZ⟩:∃ Z,zK 0=Z:=⟨_,rfl⟩
 have hZ0:Z=⟨false,[],[]⟩:=by rw[←hZ];unfold zK;simp [zZ]
 cbv
 refine⟨zR om om,?_⟩
 refine jL ha om hA ?_
 cbv
 refine cA csg ?_
 cbv
 refine zG (fun h=>?_) (fun h=>?_)
 ·rw[hsz (by omega)]
  refine qS (.refl _) rfl (by exact⟨⟨rfl,rfl⟩,⟨rfl,rfl⟩,trivial⟩) (by rfl) (by exact⟨⟨rfl,by omega⟩,⟨rfl,by omega⟩,trivial⟩) ?_
  exact trivial
 cbv
 refine⟨zR om om,?_⟩
 refine jL ha om hA ?_
 cbv
 generalize hl0:l.set e 0=l0 at *
 have hset:(enc cq l).set e [D.bool false,D.sl [],D.sl []]=enc cq l0:=by rw[←hl0];exact bR (X:=⟨false,[],[]⟩) (by rw[hZ,hZ0])
 have hl0l:l0.length=f.length:=by rw[←hl0,List.length_set];exact hl
 have hf0:lfit (2^32) l0:=by rw[←hl0];exact h1.set (xQ (by decide)) e
 refine z9 (σ:=Nat × List Rat) (fun s=>⟨[(0,.osl 1000001 3 (fun _=>0) (fun _=>l.length)),(6,.ptr 6 0),(20,.osl 1000002 3 (fun _=>0) (fun _=>f.length)),(21,.int .i64 (fun _=>(f.length:Int))),(22,.int .i64 (fun _=>(s.1:Int)))],
   [(1000001,.arr 3 (fun _=>enc cq s.2)),(1000002,.arr 3 (fun _=>enc cq f)),(6,.box (cR A))]⟩)
  (fun s=>s.1≤f.length∧s.2=(jM a l0 f).take s.1++l0.drop s.1) (fun s=>f.length - s.1)
  (0,l0) ⟨by omega,by simp⟩ (.le okZ (by cbv;exact⟨zB (by show (enc cq l).set (0+e) _=enc cq l0;rw[Nat.zero_add];exact hset),zB rfl,okA,trivial⟩) rfl) ?_
 intro s hs
 obtain⟨i,m⟩:=s
 obtain⟨g1,g2⟩:=hs
 dsimp only at g1 g2
 cbv
 refine zG (fun h=>?_) (fun h=>?_)
 ·have hi:i<f.length:=om
  obtain⟨c,hc⟩:=zU hi
  obtain⟨x,hx⟩:=zU (show i<l0.length by rw[hl0l];exact hi)
  have hm:m[i]?=some x:=by rw[g2];exact zQC hl0l hx
  have hml:m.length=f.length:=by rw[g2,List.length_append,List.length_take,jI,List.length_drop];omega
  obtain⟨C,hC⟩:∃ C,zK c=C:=⟨_,rfl⟩
  obtain⟨X,hX⟩:∃ X,zK x=X:=⟨_,rfl⟩
  have fc:Fits (2^32) c:=h2 c (List.mem_of_getElem? hc)
  have fx:Fits (2^32) x:=hf0 x (List.mem_of_getElem? hx)
  have szC:C.sz (2^32):=by rw[←hC];exact z7 fc
  have szX:X.sz (2^32):=by rw[←hX];exact z7 fx
  have qC:C.q=c:=by rw[←hC];exact yN c
  have qX:X.q=x:=by rw[←hX];exact yN x
  have csc:=s86 C (by have:=szC.n;omega)
  rw[qC] at csc
  obtain⟨W,hW⟩:∃ W,zK (a * c)=W:=⟨_,rfl⟩
  obtain⟨Y,hY⟩:∃ Y,zK (x+a * c)=Y:=⟨_,rfl⟩
  have fac:Fits (2^33) (a * c):=(wO fa fc).mono (by decide)
  have szW:W.sz (2^33):=by rw[←hW];exact z7 fac
  have qW:W.q=a * c:=by rw[←hW];exact yN _
  have cm:=s199 A C (szA.mono (by decide)) (szC.mono (by decide))
  rw[qA,qC,hW] at cm
  have ca:=s138 X W (szX.mono (by decide)) (szW.mono (by decide))
  rw[qX,qW,hY] at ca
  have hst:=zHO (a:=a) (y:=x+a * c) hl0l hx hc rfl
  have hst0:yW c=0→m=(jM a l0 f).take (i+1)++l0.drop (i+1):=fun h=>by
   have h0:=jP.1 h
   have:=zHO (a:=a) (y:=x) hl0l hx hc (by rw[h0,Rat.mul_zero,Rat.add_zero])
   rw[←this,←g2,fF hm]
  rw[←g2] at hst
  generalize yW c=sc at *
  cbv
  refine⟨zR om om,?_⟩
  refine jL hc om hC ?_
  cbv
  refine cA csc ?_
  cbv
  refine zG (fun h0=>?_) (fun h0=>?_)
  ·cbv
   refine⟨zF om om,?_⟩
   cbv
   refine⟨(i+1,m),⟨by show i+1≤f.length;omega,hst0 (by omega)⟩,by show f.length - (i+1)<f.length - i;omega,wkZ⟩
  ·cbv
   refine zY 10 (by cbv) ?_
   cbv
   refine⟨zR om om,?_⟩
   refine jL hm om hX ?_
   cbv
   refine dA cm ?_
   cbv
   refine dA ca ?_
   cbv
   refine⟨zR om om,?_⟩
   refine jL hm om hX ?_
   cbv
   refine⟨zF om om,?_⟩
   cbv
   refine⟨(i+1,m.set i (x+a * c)),⟨by show i+1≤f.length;omega,hst⟩,by show f.length - (i+1)<f.length - i;omega,.le okZ (by
    cbv
    exact⟨zB (by show (enc cq m).set (0+i) _=enc cq (m.set i (x+a * c));rw[Nat.zero_add];exact bR hY),zB rfl,okA,trivial⟩) rfl⟩
 ·have hi:i=f.length:=by (try dsimp only [zL] at *);omega
  have hmL:m=L:=by
   rw[g2,hs0,hi,←hl0l,List.drop_length,List.append_nil,←jI a l0 f,List.take_length]
  rw[←hmL]
  cbv
  refine qS (.refl _) rfl (by exact⟨⟨rfl,rfl⟩,⟨rfl,rfl⟩,trivial⟩) (by rfl) (by exact⟨⟨rfl,by omega⟩,⟨rfl,by omega⟩,trivial⟩) ?_
  exact trivial
theorem kG (fs:List (List Rat))(i:Nat):(fs.map (enc cq)).getD i []=enc cq (fs.getD i []):=by
 simp only[List.getD_eq_getElem?_getD,List.getElem?_map]
 cases fs[i]? <;> rfl
theorem map_set (fs:List (List Rat))(i:Nat)(l:List Rat):(fs.map (enc cq)).set i (enc cq l)=(fs.set i l).map (enc cq):=by rw[List.map_set]
theorem p6 (fs:List (List Rat))(i:Nat):(fs.map (enc cq)).set i (enc cq (fs.getD i []))=fs.map (enc cq):=by
 rw[map_set]
 congr 1
 by_cases h:i<fs.length
 ·obtain⟨l,hl⟩:=zU h
  rw[getD_some hl,fF hl]
 ·rw[List.set_eq_of_length_le (by omega)]
theorem oF {els:List (List D)}{l:List Rat}{i i':Nat}{x:Rat}{X:R}{K:List PV→Prop}(he:els=enc cq l)(h:l[i]?=some x)(hi:i'=i)(hX:zK x=X)(hK:K (cR X)):ElOk 3 (fun _=>els) (fun _=>i') K:=by
 subst he
 exact jL h hi hX hK
theorem zA2:Pg.funcs[87]?=some Tryz.f87:=by rw[w7];rfl
theorem iK (v r:Nat)(D:Dic)(p:Nat)(i:Nat)(hw:D.wf)(hi:i<D.fs.length)(hn:D.nb.length<2^40) :
  Sound 87 [.ptr 1000000 0,.int .i64 (fun _=>(i:Int))] (tO v r D p) [] (rv (zK (D.cst i))) (tO v r D p) []:=by
 refine xR zA2 rfl rfl rfl rfl rfl ?_
 obtain⟨l,hl⟩:=zU hi
 have hlen:=hw.row i l hl
 have hgl:D.fs.getD i []=l:=getD_some hl
 obtain⟨x,hx⟩:=zU (show D.nb.length<l.length by omega)
 have hc:D.cst i=x:=by unfold Dic.cst;rw[hgl,getD_some hx]
 obtain⟨X,hX⟩:∃ X,zK x=X:=⟨_,rfl⟩
 rw[hc,hX]
 have hrow:=kG D.fs i
 have hsame:=p6 D.fs i
 rw[hgl] at hrow hsame
 cbv
 refine mA 14 (.focus 1000003 30 (fun _=>i) rfl rfl (d4 (by show i<(D.fs.map (enc cq)).length;rw[List.length_map];exact hi))) (by cbv) ?_
 cbv
 refine⟨zR om om,?_⟩
 refine cL om ?_
 cbv
 refine⟨zR om (by show (D.nb.length:Int)<(((D.fs.map (enc cq)).getD i []).length:Int);rw[hrow,zM];omega),?_⟩
 refine oF hrow hx om hX ?_
 cbv
 refine qS (ps':=⟨[(4,.ptr 4 0)],tO v r D p++[(4,.box (cR X))]⟩) (.trans (.unfocus 1000003 30 [] [] rfl rfl rfl ⟨rfl,rfl⟩) (.le okZ (by
  cbv
  repeat' first | exact trivial | exact lR | exact zB rfl | exact⟨by show (D.fs.map (enc cq)).set i ((D.fs.map (enc cq)).getD i [])=D.fs.map (enc cq);rw[hrow];exact hsame⟩ | apply And.intro) rfl)) rfl
  (by exact⟨⟨rfl,rfl⟩,⟨rfl,rfl⟩,⟨rfl,rfl⟩,⟨rfl,rfl⟩,⟨rfl,rfl⟩,trivial⟩) (by rfl) (by exact⟨⟨rfl,by omega⟩,⟨rfl,by omega⟩,⟨rfl,by omega⟩,⟨rfl,by omega⟩,⟨rfl,by omega⟩,trivial⟩) ?_
 cbv
 exact okA
theorem fZ {l:List Nat}{i i':Nat}{x:Nat}{K:List PV→Prop}(h:l[i]?=some x)(hi:i'=i)(hK:K [.int .i64 (fun _=>(x:Int))]):ElOk 1 (fun _=>enc ci l) (fun _=>i') K :=
 ⟨⟨ci x,rfl,rfl,by show (enc ci l)[i']?=_;rw[hi];unfold enc;rw[List.getElem?_map,h];rfl,hK⟩⟩
theorem nC:Pg.funcs[101]?=some Tryz.f101:=by rw[w7];rfl
theorem zJQ (v r:Nat)(D:Dic)(p:Nat)(hl:D.ob.length=D.nb.length+1)(hn:D.nb.length<2^40)(hf:lfit (2^34) D.ob) :
  Sound 101 [.ptr 1000000 0,.osl 1000004 3 (fun _=>0) (fun _=>D.ob.length)] (tO v r D p) [] (.int .i64 (fun _=>ent v D.nb D.ob)) (tO v r D p) []:=by
 refine xR nC rfl rfl rfl rfl rfl ?_
 obtain⟨E,hE⟩:∃ E,ent v D.nb D.ob=E:=⟨_,rfl⟩
 rw[hE]
 cbv
 refine z9 (σ:=Nat × Int) (fun s=>⟨[(0,.ptr 1000000 0),(1,.osl 1000004 3 (fun _=>0) (fun _=>D.ob.length)),(5,.int .i64 (fun _=>s.2)),(11,.osl 1000002 1 (fun _=>0) (fun _=>D.nb.length)),(12,.int .i64 (fun _=>(D.nb.length:Int))),(13,.int .i64 (fun _=>(s.1:Int)))],tO v r D p⟩)
  (fun s=>s.1≤D.nb.length∧(s.2=-1∨∃ k:Nat,s.2=k∧k<s.1)∧E=aQ v D.nb D.ob (D.nb.drop s.1) s.1 s.2) (fun s=>D.nb.length - s.1)
  (0,-1) ⟨by omega,.inl rfl,by rw[←hE];rfl⟩ (.le okZ (by cbv;repeat' first | exact trivial | exact lR | exact zB rfl | exact zC om | exact zQ rfl | exact zO (by assumption) | exact zS (by assumption) | exact zI (by assumption) | exact⟨rfl⟩ | apply And.intro) rfl) ?_
 intro s hs
 obtain⟨j,b⟩:=s
 obtain⟨g1,g2,g3⟩:=hs
 dsimp only at g1 g2 g3
 cbv
 refine zG (fun h=>?_) (fun h=>?_)
 ·have hj:j<D.nb.length:=om
  obtain⟨y,hy⟩:=zU hj
  obtain⟨c,hc⟩:=zU (show j<D.ob.length by omega)
  have hd:D.nb.drop j=y::D.nb.drop (j+1):=by
   rw[List.drop_eq_getElem_cons hj]
   congr 1
   rw[List.getElem?_eq_getElem hj] at hy
   exact Option.some.inj hy
  rw[hd,aQ,getD_some hc] at g3
  obtain⟨C,hC⟩:∃ C,zK c=C:=⟨_,rfl⟩
  have fc:Fits (2^34) c:=hf c (List.mem_of_getElem? hc)
  have szC:C.sz (2^34):=by rw[←hC];exact z7 fc
  have qC:C.q=c:=by rw[←hC];exact yN c
  have csc:=s86 C (by have:=szC.n;omega)
  rw[qC] at csc
  have hneg:yW c<0↔c<0:=by unfold yW;split <;> (try split) <;> constructor <;> intro _ <;> first | assumption | omega | (exfalso;omega) | grind
  generalize yW c=sc at *
  have cfr:=jW v r D p y
  cbv
  refine⟨zR om om,?_⟩
  refine fZ hy om ?_
  cbv
  refine y4 id (.refl _) rfl okA cfr (by exact⟨⟨rfl,rfl⟩,⟨rfl,rfl⟩,⟨rfl,rfl⟩,⟨rfl,rfl⟩,⟨rfl,rfl⟩,trivial⟩) rfl rfl rfl rfl rfl rfl rfl rfl ?_
  cbv
  have hle:j+1≤D.nb.length:=hj
  have hmu:D.nb.length - (j+1)<D.nb.length - j:=by omega
  have keepg:b=-1∨∃ k:Nat,b=k∧k<j+1:=by
   rcases g2 with g2 | ⟨k,g2,g2'⟩
   ·exact .inl g2
   ·exact .inr ⟨k,g2,Nat.lt_succ_of_lt g2'⟩
  have newg:((j:Nat):Int)=-1∨∃ k:Nat,((j:Nat):Int)=k∧k<j+1:=.inr ⟨j,rfl,Nat.lt_succ_self j⟩
  refine yG (fun h1=>?_) (fun h1=>?_)
  ·cbv
   refine⟨zF om om,?_⟩
   cbv
   exact⟨(j+1,b),⟨hle,keepg,g3.trans (by rw[if_neg om])⟩,hmu,.le okZ (by cbv;repeat' first | exact trivial | exact lR | exact zB rfl | exact zC om | exact zQ rfl | exact zO (by assumption) | exact zS (by assumption) | exact zI (by assumption) | exact⟨rfl⟩ | apply And.intro) rfl⟩
  cbv
  refine⟨zR om om,?_⟩
  refine jL hc om hC ?_
  cbv
  refine cA csc ?_
  cbv
  refine yG (fun h2=>?_) (fun h2=>?_)
  rotate_left
  ·cbv
   refine⟨zF om om,?_⟩
   cbv
   exact⟨(j+1,b),⟨hle,keepg,g3.trans (by rw[if_neg (fun q=>h2 (hneg.2 q.2.1))])⟩,hmu,.le okZ (by cbv;repeat' first | exact trivial | exact lR | exact zB rfl | exact zC om | exact zQ rfl | exact zO (by assumption) | exact zS (by assumption) | exact zI (by assumption) | exact⟨rfl⟩ | apply And.intro) rfl⟩
  cbv
  refine yG (fun h3=>?_) (fun h3=>?_)
  ·cbv
   refine⟨zF om om,?_⟩
   cbv
   exact⟨(j+1,(j:Int)),⟨hle,newg,g3.trans (by rw[if_pos ⟨om,hneg.1 h2,.inl h3⟩])⟩,hmu,.le okZ (by cbv;repeat' first | exact trivial | exact lR | exact zB rfl | exact zC om | exact zQ rfl | exact zO (by assumption) | exact zS (by assumption) | exact zI (by assumption) | exact⟨rfl⟩ | apply And.intro) rfl⟩
  have h3':¬ b<0:=h3
  obtain⟨k,hk,hkj⟩:∃ k:Nat,b=k∧k<j:=by
   rcases g2 with g2 | ⟨k,g2,g2'⟩
   ·omega
   ·exact⟨k,g2,g2'⟩
  subst hk
  obtain⟨z,hz⟩:=zU (show k<D.nb.length by omega)
  rw[Int.toNat_natCast,getD_some hz] at g3
  cbv
  refine⟨zR om om,?_⟩
  refine fZ hz om ?_
  cbv
  refine zG (fun h4=>?_) (fun h4=>?_)
  ·cbv
   refine⟨zF om om,?_⟩
   cbv
   exact⟨(j+1,(j:Int)),⟨hle,newg,g3.trans (by rw[if_pos ⟨om,hneg.1 h2,.inr om⟩])⟩,hmu,.le okZ (by cbv;repeat' first | exact trivial | exact lR | exact zB rfl | exact zC om | exact zQ rfl | exact zO (by assumption) | exact zS (by assumption) | exact zI (by assumption) | exact⟨rfl⟩ | apply And.intro) rfl⟩
  ·have hq:¬ (v≤y∧c<0∧(((k:Nat):Int)<0∨y<z)):=fun q=>by
    rcases q.2.2 with q | q
    ·omega
    ·exact h4 om
   cbv
   refine⟨zF om om,?_⟩
   cbv
   exact⟨(j+1,(k:Int)),⟨hle,keepg,g3.trans (by rw[if_neg hq])⟩,hmu,.le okZ (by cbv;repeat' first | exact trivial | exact lR | exact zB rfl | exact zC om | exact zQ rfl | exact zO (by assumption) | exact zS (by assumption) | exact zI (by assumption) | exact⟨rfl⟩ | apply And.intro) rfl⟩
 ·have hj:j=D.nb.length:=by (try dsimp only [zL] at *);omega
  have hEb:b=E:=by rw[g3,hj,List.drop_length];rfl
  subst hEb
  cbv
  refine qS (.refl _) rfl (by exact⟨⟨rfl,rfl⟩,⟨rfl,rfl⟩,⟨rfl,rfl⟩,⟨rfl,rfl⟩,⟨rfl,rfl⟩,trivial⟩) (by rfl) (by exact⟨⟨rfl,by omega⟩,⟨rfl,by omega⟩,⟨rfl,by omega⟩,⟨rfl,by omega⟩,⟨rfl,by omega⟩,trivial⟩) ?_
  exact lR
end Go.Proofs.YtfainocfaddbdaaGreat
