/- A part of the proof: SyJ, SyK, SyL. -/
import Derived.Test.YtfainocfaddbdaaGreatX33
import Derived.Test.YtfainocfaddbdaaGreatX27
set_option linter.all false
namespace Go.Proofs.YtfainocfaddbdaaGreat
open Go
set_option maxRecDepth 100000
set_option maxHeartbeats 4000000
theorem qF {α:Type}{l:List α}{i:Nat}{x:α}(h:l[i]?=some x):l.drop i=x::l.drop (i+1):=by
 have hi:=(List.getElem?_eq_some_iff.1 h).1
 rw[List.drop_eq_getElem_cons hi]
 congr 1
 rw[List.getElem?_eq_getElem hi] at h
 exact Option.some.inj h
theorem zO7 (v r:Nat)(D:Dic)(p:Nat)(hw:D.wf)(hn:D.nb.length<2^30)(hb:D.bs.length<2^30)(hp:p<2^30)(hf:∀ E,Pvs D E→E.fit (2^30)) :
  Sound 48 [.ptr 1000000 0] (tO v r D p) [] (.tup []) (tO v r (rel v D.nb 0 (D,p)).1 (rel v D.nb 0 (D,p)).2) []:=by
 refine sF Tryz.f48 ?_
 obtain⟨⟨E,q'⟩,hE⟩:∃ E,rel v D.nb 0 (D,p)=E:=⟨_,rfl⟩
 rw[hE]
 dsimp only
 have ccl:=zMW (enc ci D.nb) (fun e he=>by
  unfold enc at he
  obtain⟨x,_,rfl⟩:=List.mem_map.1 he
  rfl) (by rw[zM];omega)
 rw[zM] at ccl
 cbv
 refine y4 (fun n=>match nqb n 1000001 with | true=>1000002 | false=>10) (.refl _) rfl okA ccl (by exact⟨⟨rfl,rfl⟩,trivial⟩) rfl rfl rfl rfl rfl rfl rfl rfl ?_
 cbv
 refine z9 (σ:=Nat × Dic × Nat) (fun s=>⟨[(0,.ptr 1000000 0),(10,.osl 10 1 (fun _=>0) (fun _=>D.nb.length)),(11,.int .i64 (fun _=>(D.nb.length:Int))),(12,.int .i64 (fun _=>(s.1:Int)))],tO v r s.2.1 s.2.2++[(10,.arr 1 (fun _=>enc ci D.nb))]⟩)
  (fun s=>s.1≤D.nb.length∧Pvs D s.2.1∧s.2.2≤p+s.1∧(E,q')=rel v (D.nb.drop s.1) s.1 s.2) (fun s=>D.nb.length - s.1)
  (0,D,p) ⟨by omega,.refl,by show p≤p+0;omega,by rw[←hE];rfl⟩ (.le okZ (by cbv;repeat' first | exact trivial | exact lR | exact zB rfl | exact zC om | exact zQ rfl | exact zO (by assumption) | exact zS (by assumption) | exact zI (by assumption) | exact⟨rfl⟩ | apply And.intro) rfl) ?_
 intro s hs
 obtain⟨e,F,q⟩:=s
 obtain⟨g1,g2,g3,g4⟩:=hs
 dsimp only at g1 g2 g3 g4
 have hFw:=g2.wf hw
 have hFl:=g2.len
 have hff:=hf F g2
 have hlf:=hFw.len
 cbv
 refine zG (fun h=>?_) (fun h=>?_)
 ·have he:e<D.nb.length:=om
  obtain⟨y,hy⟩:=zU he
  rw[qF hy,rel] at g4
  have cfr:=jW v r F q y
  have hle:e+1≤D.nb.length:=he
  have hmu:D.nb.length - (e+1)<D.nb.length - e:=by omega
  cbv
  refine⟨zR om om,?_⟩
  refine fZ hy om ?_
  cbv
  refine y4 id (.refl _) rfl okA cfr (by exact⟨⟨rfl,rfl⟩,⟨rfl,rfl⟩,⟨rfl,rfl⟩,⟨rfl,rfl⟩,⟨rfl,rfl⟩,trivial⟩) rfl rfl rfl rfl rfl rfl rfl rfl ?_
  cbv
  refine zG (fun h1=>?_) (fun h1=>?_)
  rotate_left
  ·cbv;refine⟨zF om om,?_⟩;cbv
   exact⟨(e+1,F,q),⟨hle,g2,by show q≤p+(e+1);omega,g4.trans (by rw[if_neg (fun k=>h1 om)])⟩,hmu,.le okZ (by cbv;repeat' first | exact trivial | exact lR | exact zB rfl | exact zC om | exact zQ rfl | exact zO (by assumption) | exact zS (by assumption) | exact zI (by assumption) | exact⟨rfl⟩ | apply And.intro) rfl⟩
  have hyv:y<v:=by (try dsimp only [zL] at *);omega
  rw[if_pos hyv] at g4
  unfold relS at g4
  cbv
  refine z9 (σ:=Nat) (fun i=>⟨[(0,.ptr 1000000 0),(2,.int .i64 (fun _=>(e:Int))),(10,.osl 10 1 (fun _=>0) (fun _=>D.nb.length)),(11,.int .i64 (fun _=>(D.nb.length:Int))),(12,.int .i64 (fun _=>(e:Int))),(24,.osl 1000001 1 (fun _=>0) (fun _=>F.bs.length)),(25,.int .i64 (fun _=>(F.bs.length:Int))),(26,.int .i64 (fun _=>(i:Int)))],tO v r F q++[(10,.arr 1 (fun _=>enc ci D.nb))]⟩)
   (fun i=>i≤F.bs.length∧rF v e F F.bs 0=rF v e F (F.bs.drop i) i) (fun i=>F.bs.length - i)
   0 ⟨by omega,rfl⟩ (.le okZ (by cbv;repeat' first | exact trivial | exact lR | exact zB rfl | exact zC om | exact zQ rfl | exact zO (by assumption) | exact zS (by assumption) | exact zI (by assumption) | exact⟨rfl⟩ | apply And.intro) rfl) ?_
  intro i hi0
  obtain⟨k1,k2⟩:=hi0
  cbv
  refine zG (fun hh=>?_) (fun hh=>?_)
  ·have hi:i<F.bs.length:=om
   obtain⟨b,hbi⟩:=zU hi
   obtain⟨l,hl⟩:=zU (show i<F.fs.length by omega)
   have hll:=hFw.row i l hl
   have hgl:F.fs.getD i []=l:=getD_some hl
   have hrow:=kG F.fs i
   have hsame:=p6 F.fs i
   rw[hgl] at hrow hsame
   obtain⟨a,ha⟩:=zU (show e<l.length by omega)
   have hat:F.at i e=a:=by unfold Dic.at;rw[hgl,getD_some ha]
   rw[qF hbi,rF,hat] at k2
   have fl:=hff.fs l (List.mem_of_getElem? hl)
   have fa:Fits (2^30) a:=fl a (List.mem_of_getElem? ha)
   obtain⟨A,hA⟩:∃ A,zK a=A:=⟨_,rfl⟩
   have szA:A.sz (2^30):=by rw[←hA];exact z7 fa
   have qA:A.q=a:=by rw[←hA];exact yN a
   have csa:=s86 A (by have:=szA.n;omega)
   rw[qA] at csa
   have hz:yW a=0↔a=0:=jP
   have cfb:=jW v r F q b
   have hle2:i+1≤F.bs.length:=hi
   have hmu2:F.bs.length - (i+1)<F.bs.length - i:=by omega
   generalize yW a=sa at *
   cbv
   refine⟨zR om om,?_⟩
   refine fZ hbi om ?_
   cbv
   refine y4 id (.refl _) rfl okA cfb (by exact⟨⟨rfl,rfl⟩,⟨rfl,rfl⟩,⟨rfl,rfl⟩,⟨rfl,rfl⟩,⟨rfl,rfl⟩,trivial⟩) rfl rfl rfl rfl rfl rfl rfl rfl ?_
   cbv
   refine yG (fun h2=>?_) (fun h2=>?_)
   ·cbv;refine⟨zF om om,?_⟩;cbv
    exact⟨i+1,⟨hle2,k2.trans (by rw[if_neg (fun k=>by have:=k.1;(try dsimp only [zL] at *);omega)])⟩,hmu2,.le okZ (by cbv;repeat' first | exact trivial | exact lR | exact zB rfl | exact zC om | exact zQ rfl | exact zO (by assumption) | exact zS (by assumption) | exact zI (by assumption) | exact⟨rfl⟩ | apply And.intro) rfl⟩
   cbv
   refine⟨zR om om,?_⟩
   refine⟨_,.focus 1000003 31 (fun _=>i) rfl rfl (d4 (by show i<(F.fs.map (enc cq)).length;rw[List.length_map];omega)),?_⟩
   cbv
   refine cL om ?_
   cbv
   refine⟨zR om (by show (e:Int)<(((F.fs.map (enc cq)).getD i []).length:Int);rw[hrow,zM];omega),?_⟩
   refine oF hrow ha om hA ?_
   cbv
   refine cA csa ?_
   cbv
   refine zG (fun h3=>?_) (fun h3=>?_)
   ·cbv;refine⟨zF om om,?_⟩;cbv
    exact⟨i+1,⟨hle2,k2.trans (by rw[if_neg (fun k=>k.2 (hz.1 h3))])⟩,hmu2,(.trans (.unfocus 1000003 31 [] [] rfl rfl rfl ⟨rfl,rfl⟩) (.le okZ (by cbv;repeat' first | exact trivial | exact lR | exact zB rfl | exact⟨by show (F.fs.map (enc cq)).set i ((F.fs.map (enc cq)).getD i [])=F.fs.map (enc cq);rw[hrow];exact hsame⟩ | exact zC om | apply And.intro) rfl))⟩
   ·have ha0:a≠0:=fun k=>h3 (hz.2 k)
    have hR:=k2.trans (if_pos ⟨by (try dsimp only [zL] at *);omega,ha0⟩)
    rw[hR] at g4
    dsimp only at g4
    have hpv:Pvs D (F.piv i e):=.step g2 hi (by omega) (by rw[hat];exact ha0)
    have cpv:=d8 v r F q i e hFw hi (by omega) (by rw[hat];exact ha0) (by omega) (by omega) (by omega) hff
    generalize F.piv i e=F' at *
    cbv
    refine y4 (ps':=⟨[(0,.ptr 1000000 0),(10,.osl 10 1 (fun _=>0) (fun _=>D.nb.length)),(11,.int .i64 (fun _=>(D.nb.length:Int))),(12,.int .i64 (fun _=>(e:Int))),(49,.ptr 1000000 0),(50,.int .i64 (fun _=>(i:Int))),(51,.int .i64 (fun _=>(e:Int)))],tO v r F q++[(10,.arr 1 (fun _=>enc ci D.nb))]⟩) id (.trans (.unfocus 1000003 31 [] [] rfl rfl rfl ⟨rfl,rfl⟩) (.le okZ (by cbv;repeat' first | exact trivial | exact lR | exact zB rfl | exact⟨by show (F.fs.map (enc cq)).set i ((F.fs.map (enc cq)).getD i [])=F.fs.map (enc cq);rw[hrow];exact hsame⟩ | exact zC om | apply And.intro) rfl)) rfl okA cpv (by exact⟨⟨rfl,rfl⟩,⟨rfl,rfl⟩,⟨rfl,rfl⟩,⟨rfl,rfl⟩,⟨rfl,rfl⟩,trivial⟩) rfl rfl rfl rfl rfl rfl rfl rfl ?_
    cbv;refine⟨zF om om,?_⟩;cbv
    exact⟨(e+1,F',q+1),⟨hle,hpv,by show q+1≤p+(e+1);omega,g4⟩,hmu,.le okZ (by cbv;repeat' first | exact trivial | exact lR | exact zB rfl | exact zC om | exact zQ rfl | exact zO (by assumption) | exact zS (by assumption) | exact zI (by assumption) | exact⟨rfl⟩ | apply And.intro) rfl⟩
  ·have hi:i=F.bs.length:=by (try dsimp only [zL] at *);omega
   have hR:rF v e F F.bs 0=none:=by rw[k2,hi,List.drop_length];rfl
   rw[hR] at g4
   cbv;refine⟨zF om om,?_⟩;cbv
   exact⟨(e+1,F,q),⟨hle,g2,by show q≤p+(e+1);omega,g4⟩,hmu,.le okZ (by cbv;repeat' first | exact trivial | exact lR | exact zB rfl | exact zC om | exact zQ rfl | exact zO (by assumption) | exact zS (by assumption) | exact zI (by assumption) | exact⟨rfl⟩ | apply And.intro) rfl⟩
 ·have he:e=D.nb.length:=by (try dsimp only [zL] at *);omega
  have hEq:(E,q')=(F,q):=by rw[g4,he,List.drop_length];rfl
  cases hEq
  cbv
  refine qS (ps':=⟨[],tO v r E q'⟩) (.le okZ (by cbv;repeat' first | exact trivial | exact lR | exact zB rfl | exact zC om | exact zQ rfl | exact zO (by assumption) | exact zS (by assumption) | exact zI (by assumption) | exact⟨rfl⟩ | apply And.intro) rfl) rfl (by exact⟨⟨rfl,rfl⟩,⟨rfl,rfl⟩,⟨rfl,rfl⟩,⟨rfl,rfl⟩,⟨rfl,rfl⟩,trivial⟩) (by rfl) (by exact⟨⟨rfl,by omega⟩,⟨rfl,by omega⟩,⟨rfl,by omega⟩,⟨rfl,by omega⟩,⟨rfl,by omega⟩,trivial⟩) ?_
  exact trivial
theorem zQQ (v r:Nat)(D:Dic)(p:Nat):Sound 56 [.ptr 1000006 0] (tO v r D p++[(1000006,.box [.ptr 1000000 0])]) [] (.osl 1000004 3 (fun _=>0) (fun _=>D.ob.length)) (tO v r D p++[(1000006,.box [.ptr 1000000 0])]) []:=by
 refine sF Tryz.f56 ?_
 cbv
 refine qS (.refl _) rfl (by exact⟨⟨rfl,rfl⟩,⟨rfl,rfl⟩,⟨rfl,rfl⟩,⟨rfl,rfl⟩,⟨rfl,rfl⟩,⟨rfl,rfl⟩,trivial⟩) (by rfl) (by exact⟨⟨rfl,by omega⟩,⟨rfl,by omega⟩,⟨rfl,by omega⟩,⟨rfl,by omega⟩,⟨rfl,by omega⟩,⟨rfl,by omega⟩,trivial⟩) ?_
 exact lR
def vO (v r:Nat) (D:Dic) (p a:Nat) (u:List Rat):List (Nat × Obj') :=
 tO v r D p++[(1000006,.box [.ptr 1000000 0]),(1000007,.box [.int .i64 (fun _=>(a:Int))]),(1000008,.box [.osl 1000009 3 (fun _=>0) (fun _=>u.length)]),(1000009,.arr 3 (fun _=>enc cq u))]
def vH (v r : Nat) (D : Dic) (p a : Nat) (u : List Rat) (i : Nat) (l : List Rat) : List (Nat × Obj') :=
  [(1000000, .box [.int .i64 (fun _ => (v : Int)), .int .i64 (fun _ => (r : Int)), .osl 1000001 1 (fun _ => 0) (fun _ => D.bs.length), .osl 1000002 1 (fun _ => 0) (fun _ => D.nb.length), .osl 1000003 1 (fun _ => 0) (fun _ => D.fs.length), .osl 1000004 3 (fun _ => 0) (fun _ => D.ob.length), .int .i64 (fun _ => (p : Int))]),
   (1000001, .arr 1 (fun _ => enc ci D.bs)), (1000002, .arr 1 (fun _ => enc ci D.nb)), (1000003, .mat 3 (fun _ => D.fs.map (enc cq)) [(.osl 5 3 (fun _ => 0) (fun _ => l.length), fun _ => i)]), (1000004, .arr 3 (fun _ => enc cq D.ob)),
   (1000006, .box [.ptr 1000000 0]), (1000007, .box [.int .i64 (fun _ => (a : Int))]), (1000008, .box [.osl 1000009 3 (fun _ => 0) (fun _ => u.length)]), (1000009, .arr 3 (fun _ => enc cq u))]
theorem zG7:Pg.funcs[90]?=some Tryz.f90:=by rw[w7];rfl
theorem zGQ (v r : Nat) (D : Dic) (p a : Nat) (u l : List Rat) (i : Nat) (hw : D.wf) (hb : D.bs.length < 2^40) (hi : wS D.bs a = (i : Int)) (hl : D.fs[i]? = some l) :
    Sound 90 [.ptr 1000006 0, .ptr 1000007 0, .ptr 1000008 0] (vO v r D p a u) [] (.osl 5 3 (fun _ => 0) (fun _ => l.length)) (vH v r D p a u i l) [(5, .arr 3 (fun _ => enc cq l))] := by
  refine xR zG7 rfl rfl rfl rfl rfl ?_
  have hgl : D.fs.getD i [] = l := getD_some hl
  have hil := yR hl
  have hrow := kG D.fs i
  rw [hgl] at hrow
  have cix := rV D.bs a hb
  rw [hi] at cix
  cbv
  refine zY 6 (by cbv) ?_
  cbv
  refine wQ id okA cix (by exact ⟨⟨rfl, rfl⟩, trivial⟩) rfl rfl rfl rfl rfl rfl ?_
  cbv
  refine dQ om ?_
  cbv
  refine ⟨zR om om, ?_⟩
  refine ⟨_, .focus 1000003 31 (fun _ => i) rfl rfl (d4 (by show i < (D.fs.map (enc cq)).length; rw [List.length_map]; exact hil)), ?_⟩
  cbv
  refine cL om ?_
  cbv
  have hril : ((D.fs.map (enc cq)).getD i []).length = l.length := by rw [hrow, zM]
  refine p8 (ps' := ⟨[(3, .osl 31 3 (fun _ => 0) (fun _ => l.length))], [(1000000, .box [.int .i64 (fun _ => (v : Int)), .int .i64 (fun _ => (r : Int)), .osl 1000001 1 (fun _ => 0) (fun _ => D.bs.length), .osl 1000002 1 (fun _ => 0) (fun _ => D.nb.length), .osl 1000003 1 (fun _ => 0) (fun _ => D.fs.length), .osl 1000004 3 (fun _ => 0) (fun _ => D.ob.length), .int .i64 (fun _ => (p : Int))]),
   (1000001, .arr 1 (fun _ => enc ci D.bs)), (1000002, .arr 1 (fun _ => enc ci D.nb)), (1000003, .mat 3 (fun _ => D.fs.map (enc cq)) [(.osl 31 3 (fun _ => 0) (fun _ => l.length), fun _ => i)]), (1000004, .arr 3 (fun _ => enc cq D.ob)),
   (1000006, .box [.ptr 1000000 0]), (1000007, .box [.int .i64 (fun _ => (a : Int))]), (1000008, .box [.osl 1000009 3 (fun _ => 0) (fun _ => u.length)]), (1000009, .arr 3 (fun _ => enc cq u)), (31, .arr 3 (fun _ => enc cq l))]⟩) (fun n => match nqb n 5 with | true => 31 | false => n)
    (.le (by cbv; repeat' first | exact trivial | exact lR | exact yC rfl hril | apply And.intro) (by
      cbv
      repeat' first | exact trivial | exact lR | exact zB rfl | exact ⟨rfl⟩ | exact yC rfl hril | exact zB hrow | apply And.intro) rfl) rfl (by exact ⟨⟨rfl, rfl⟩, ⟨rfl, rfl⟩, ⟨rfl, rfl⟩, ⟨rfl, rfl⟩, ⟨rfl, rfl⟩, ⟨rfl, rfl⟩, ⟨rfl, rfl⟩, ⟨rfl, rfl⟩, ⟨rfl, rfl⟩, ⟨rfl, rfl⟩, trivial⟩) (by rfl) (by exact ⟨⟨rfl, by omega⟩, ⟨rfl, by omega⟩, ⟨rfl, by omega⟩, ⟨rfl, by omega⟩, ⟨rfl, by omega⟩, ⟨rfl, by omega⟩, ⟨rfl, by omega⟩, ⟨rfl, by omega⟩, ⟨rfl, by omega⟩, trivial⟩) ?_
  exact lR
theorem zGP (v r:Nat)(D:Dic)(p a:Nat)(u:List Rat)(j:Nat)(hb:D.bs.length<2^40)(hn:D.nb.length<2^40)(hul:u.length<2^40)(hi:wS D.bs a<0)(hj:wS D.nb a=(j:Int))(hju:j<u.length) :
  Sound 90 [.ptr 1000006 0,.ptr 1000007 0,.ptr 1000008 0] (vO v r D p a u) [] (.osl 5 3 (fun _=>0) (fun _=>u.length)) (vO v r D p a u) [(5,.arr 3 (fun _=>enc cq (u.set j 1)))]:=by
 refine xR zG7 rfl rfl rfl rfl rfl ?_
 have cix:=rV D.bs a hb
 have cjx:=rV D.nb a hn
 rw[hj] at cjx
 obtain⟨ib,hib⟩:∃ ib,wS D.bs a=ib:=⟨_,rfl⟩
 rw[hib] at cix hi
 have ccl:=zMV (enc cq u) (fun e he=>by
  unfold enc at he
  obtain⟨x,_,rfl⟩:=List.mem_map.1 he
  rfl) (by rw[zM];omega)
 rw[zM] at ccl
 obtain⟨x,hx⟩:=zU hju
 obtain⟨X,hX⟩:∃ X,zK x=X:=⟨_,rfl⟩
 obtain⟨U,hU⟩:∃ U,zK ((1:Int):Rat)=U:=⟨_,rfl⟩
 have c1:=s104 1 (by decide) (by decide)
 rw[hU] at c1
 have hU1:zK (1:Rat)=U:=hU
 cbv
 refine zY 6 (by cbv) ?_
 cbv
 refine wQ id okA cix (by exact⟨⟨rfl,rfl⟩,trivial⟩) rfl rfl rfl rfl rfl rfl ?_
 cbv
 refine gD om ?_
 cbv
 refine y4 (fun n=>match nqb n 1000001 with | true=>1000009 | false=>22) (.refl _) rfl okA ccl (by exact⟨⟨rfl,rfl⟩,trivial⟩) rfl rfl rfl rfl rfl rfl rfl rfl ?_
 cbv
 refine zY 8 (by cbv) ?_
 cbv
 refine wQ (fun n=>match nqb n 1000001 with | true=>1000002 | false=>n) okA cjx (by exact⟨⟨rfl,rfl⟩,trivial⟩) rfl rfl rfl rfl rfl rfl ?_
 cbv
 refine dA c1 ?_
 cbv
 refine⟨zR om om,?_⟩
 refine jL hx om hX ?_
 cbv
 refine p8 (ps':=⟨[(3,.osl 22 3 (fun _=>0) (fun _=>u.length))],vO v r D p a u++[(22,.arr 3 (fun _=>enc cq (u.set j 1)))]⟩) (fun n=>match nqb n 5 with | true=>22 | false=>n)
  (.le okZ (by
   cbv
   repeat' first | exact trivial | exact lR | exact zB rfl | exact⟨rfl⟩ | exact zB (by show (enc cq u).set (0+j) _=enc cq (u.set j 1);rw[Nat.zero_add];exact bR hU1) | apply And.intro) rfl) rfl (by exact⟨⟨rfl,rfl⟩,⟨rfl,rfl⟩,⟨rfl,rfl⟩,⟨rfl,rfl⟩,⟨rfl,rfl⟩,⟨rfl,rfl⟩,⟨rfl,rfl⟩,⟨rfl,rfl⟩,⟨rfl,rfl⟩,⟨rfl,rfl⟩,trivial⟩) (by rfl) (by exact⟨⟨rfl,by omega⟩,⟨rfl,by omega⟩,⟨rfl,by omega⟩,⟨rfl,by omega⟩,⟨rfl,by omega⟩,⟨rfl,by omega⟩,⟨rfl,by omega⟩,⟨rfl,by omega⟩,⟨rfl,by omega⟩,trivial⟩) ?_
 exact lR
theorem zG8:Pg.funcs[55]?=some Tryz.f55:=by rw[w7];rfl
theorem zMS (v r:Nat)(D:Dic)(p:Nat)(hw:D.wf)(hn:D.nb.length<2^30)(hb:D.bs.length<2^30)(hp:p<2^30)(hf:∀ E,Pvs D E→E.fit (2^30)) :
  Sound 55 [.ptr 1000000 0,.fn 56 [.ptr 1000006 0]] (tO v r D p++[(1000006,.box [.ptr 1000000 0])]) []
   (.tup [.int .i64 (fun _=>(vV v Dic.ob (65537 - p) D p).2.2.1),.bool (fun _=>(vV v Dic.ob (65537 - p) D p).2.2.2)]) (tO v r (vV v Dic.ob (65537 - p) D p).1 (vV v Dic.ob (65537 - p) D p).2.1++[(1000006,.box [.ptr 1000000 0])]) []:=by
 refine xR zG8 rfl rfl rfl rfl rfl ?_
 obtain⟨⟨E,q',c,ok⟩,hE⟩:∃ E,vV v Dic.ob (65537 - p) D p=E:=⟨_,rfl⟩
 rw[hE]
 dsimp only
 cbv
 refine z9 (σ:=Dic × Nat) (fun s=>⟨[(0,.ptr 1000000 0),(1,.fn 56 [.ptr 1000006 0])],tO v r s.1 s.2++[(1000006,.box [.ptr 1000000 0])]⟩)
  (fun s=>Pvs D s.1∧s.2<2^31∧(E,q',c,ok)=vV v Dic.ob (65537 - s.2) s.1 s.2) (fun s=>65537 - s.2)
  (D,p) ⟨.refl,by show p<2^31;omega,hE.symm⟩ (.le okZ (by cbv;repeat' first | exact trivial | exact lR | exact zB rfl | exact zC om | exact zQ rfl | exact zO (by assumption) | exact zS (by assumption) | exact zI (by assumption) | exact⟨rfl⟩ | apply And.intro) rfl) ?_
 intro s hs
 obtain⟨F,q⟩:=s
 obtain⟨g2,g3,g4⟩:=hs
 dsimp only at g2 g3 g4
 have hFw:=g2.wf hw
 have hFl:=g2.len
 have hff:=hf F g2
 have hlf:=hFw.len
 cbv
 refine zG (fun h=>?_) (fun h=>?_)
 ·have hq:q≤65536:=om
  rw[show 65537 - q=(65536 - q)+1 by omega,vV,if_pos hq] at g4
  have cl1:=zQQ v r F q
  have cen:=zJQ v r F q hFw.ob (by omega) (hff.ob.mono (by decide))
  have hen:=sL (v:=v) (nb:=F.nb) (l:=F.ob)
  obtain⟨ee,hee⟩:∃ ee,ent v F.nb F.ob=ee:=⟨_,rfl⟩
  rw[hee] at cen g4 hen
  cbv
  refine y4 id (.refl _) rfl okA cl1 (by exact⟨⟨rfl,rfl⟩,⟨rfl,rfl⟩,⟨rfl,rfl⟩,⟨rfl,rfl⟩,⟨rfl,rfl⟩,⟨rfl,rfl⟩,trivial⟩) rfl rfl rfl rfl rfl rfl rfl rfl ?_
  cbv
  refine y4 id (.refl _) rfl okA cen (by exact⟨⟨rfl,rfl⟩,⟨rfl,rfl⟩,⟨rfl,rfl⟩,⟨rfl,rfl⟩,⟨rfl,rfl⟩,trivial⟩) rfl rfl rfl rfl rfl rfl rfl rfl ?_
  cbv
  refine zG (fun h1=>?_) (fun h1=>?_)
  ·rw[if_pos h1] at g4
   cases g4
   cbv
   refine zY 6 (by cbv) ?_
   cbv
   refine qS (.refl _) rfl (by exact⟨⟨rfl,rfl⟩,⟨rfl,rfl⟩,⟨rfl,rfl⟩,⟨rfl,rfl⟩,⟨rfl,rfl⟩,⟨rfl,rfl⟩,trivial⟩) (by rfl) (by exact⟨⟨rfl,by omega⟩,⟨rfl,by omega⟩,⟨rfl,by omega⟩,⟨rfl,by omega⟩,⟨rfl,by omega⟩,⟨rfl,by omega⟩,trivial⟩) ?_
   cbv
   exact⟨lR,zI (decide_eq_true om),trivial⟩
  ·rw[if_neg h1] at g4
   obtain⟨e,rfl⟩:∃ e:Nat,ee=e:=⟨ee.toNat,by omega⟩
   rw[Int.toNat_natCast] at g4 hen
   have he:=hen (by omega)
   have clv:=iJ v r F q e hFw he.1 (by omega) (by omega) hff
   have hlv:=zBZ (v:=v) (e:=e) (D:=F)
   obtain⟨rr,hrr⟩:∃ rr,lvR v e F=rr:=⟨_,rfl⟩
   rw[hrr] at clv g4 hlv
   cbv
   refine y4 id (.refl _) rfl okA clv (by exact⟨⟨rfl,rfl⟩,⟨rfl,rfl⟩,⟨rfl,rfl⟩,⟨rfl,rfl⟩,⟨rfl,rfl⟩,trivial⟩) rfl rfl rfl rfl rfl rfl rfl rfl ?_
   cbv
   refine zG (fun h2=>?_) (fun h2=>?_)
   ·rw[if_pos h2] at g4
    cases g4
    cbv
    refine qS (.refl _) rfl (by exact⟨⟨rfl,rfl⟩,⟨rfl,rfl⟩,⟨rfl,rfl⟩,⟨rfl,rfl⟩,⟨rfl,rfl⟩,⟨rfl,rfl⟩,trivial⟩) (by rfl) (by exact⟨⟨rfl,by omega⟩,⟨rfl,by omega⟩,⟨rfl,by omega⟩,⟨rfl,by omega⟩,⟨rfl,by omega⟩,⟨rfl,by omega⟩,trivial⟩) ?_
    cbv
    exact okA
   ·rw[if_neg h2] at g4
    obtain⟨i,rfl⟩:∃ i:Nat,rr=i:=⟨rr.toNat,by omega⟩
    rw[Int.toNat_natCast] at g4 hlv
    have hi:=hlv (by omega)
    have hne:F.at i e≠0:=by have:=hi.2.2;grind
    have hpv:Pvs D (F.piv i e):=.step g2 hi.1 he.1 hne
    have cpv:=d8 v r F q i e hFw hi.1 he.1 hne (by omega) (by omega) (by omega) hff
    rw[show 65536 - q=65537 - (q+1) by omega] at g4
    generalize F.piv i e=F' at *
    cbv
    refine y4 id (.refl _) rfl okA cpv (by exact⟨⟨rfl,rfl⟩,⟨rfl,rfl⟩,⟨rfl,rfl⟩,⟨rfl,rfl⟩,⟨rfl,rfl⟩,trivial⟩) rfl rfl rfl rfl rfl rfl rfl rfl ?_
    cbv
    exact⟨(F',q+1),⟨hpv,by show q+1<2^31;omega,g4⟩,by show 65537 - (q+1)<65537 - q;omega,.le okZ (by cbv;repeat' first | exact trivial | exact lR | exact zB rfl | exact zC om | exact zQ rfl | exact zO (by assumption) | exact zS (by assumption) | exact zI (by assumption) | exact⟨rfl⟩ | apply And.intro) rfl⟩
 ·have hq:¬ q≤65536:=om
  rw[show 65537 - q=0 by omega,vV] at g4
  cases g4
  cbv
  refine zY 6 (by cbv) ?_
  cbv
  refine qS (.refl _) rfl (by exact⟨⟨rfl,rfl⟩,⟨rfl,rfl⟩,⟨rfl,rfl⟩,⟨rfl,rfl⟩,⟨rfl,rfl⟩,⟨rfl,rfl⟩,trivial⟩) (by rfl) (by exact⟨⟨rfl,by omega⟩,⟨rfl,by omega⟩,⟨rfl,by omega⟩,⟨rfl,by omega⟩,⟨rfl,by omega⟩,⟨rfl,by omega⟩,trivial⟩) ?_
  cbv
  exact⟨lR,zI (decide_eq_decide.2 ⟨fun w=>by omega,fun w=>by omega⟩),trivial⟩
theorem zMR (v r:Nat)(D:Dic)(p a:Nat)(u:List Rat)(hu:u=List.replicate (D.nb.length+1) 0)(ha:a∈D.bs∨a∈D.nb)(hw:D.wf)(hn:D.nb.length<2^30)(hb:D.bs.length<2^30)(hp:p<2^30)(hf:∀ E,Pvs D E→E.fit (2^30)) :
  Sound 55 [.ptr 1000000 0,.fn 90 [.ptr 1000006 0,.ptr 1000007 0,.ptr 1000008 0]] (vO v r D p a u) []
   (.tup [.int .i64 (fun _=>(vV v (vio a) (65537 - p) D p).2.2.1),.bool (fun _=>(vV v (vio a) (65537 - p) D p).2.2.2)]) (vO v r (vV v (vio a) (65537 - p) D p).1 (vV v (vio a) (65537 - p) D p).2.1 a u) []:=by
 refine xR zG8 rfl rfl rfl rfl rfl ?_
 obtain⟨⟨E,q',c,ok⟩,hE⟩:∃ E,vV v (vio a) (65537 - p) D p=E:=⟨_,rfl⟩
 rw[hE]
 dsimp only
 have hul:u.length=D.nb.length+1:=by rw[hu];simp
 cbv
 refine z9 (σ:=Dic × Nat) (fun s=>⟨[(0,.ptr 1000000 0),(1,.fn 90 [.ptr 1000006 0,.ptr 1000007 0,.ptr 1000008 0])],vO v r s.1 s.2 a u⟩)
  (fun s=>Pvs D s.1∧s.2<2^31∧(E,q',c,ok)=vV v (vio a) (65537 - s.2) s.1 s.2) (fun s=>65537 - s.2)
  (D,p) ⟨.refl,by show p<2^31;omega,hE.symm⟩ (.le okZ (by cbv;repeat' first | exact trivial | exact lR | exact zB rfl | exact zC om | exact zQ rfl | exact zO (by assumption) | exact zS (by assumption) | exact zI (by assumption) | exact⟨rfl⟩ | apply And.intro) rfl) ?_
 intro s hs
 obtain⟨F,q⟩:=s
 obtain⟨g2,g3,g4⟩:=hs
 dsimp only at g2 g3 g4
 have hFw:=g2.wf hw
 have hFl:=g2.len
 have hff:=hf F g2
 have hlf:=hFw.len
 have haF:a∈F.bs∨a∈F.nb:=((g2.same hw).vars a).2 ha
 cbv
 refine zG (fun h=>?_) (fun h=>?_)
 ·have hq:q≤65536:=om
  rw[show 65537 - q=(65536 - q)+1 by omega,vV,if_pos hq] at g4
  by_cases hbi:0≤wS F.bs a
  ·obtain⟨i0,hi0⟩:∃ i0:Nat,wS F.bs a=i0:=⟨(wS F.bs a).toNat,by omega⟩
   have hg:=yR (wY hbi)
   rw[hi0,Int.toNat_natCast] at hg
   obtain⟨l,hl⟩:=zU (l:=F.fs) (i:=i0) (by omega)
   have hvio:vio a F=l:=by unfold vio;rw[if_pos hbi,hi0,Int.toNat_natCast,getD_some hl]
   rw[hvio] at g4
   have cl1:=zGQ v r F q a u l i0 hFw (by omega) hi0 hl
   have hll:=hFw.row i0 l hl
   have cen:=zH8 v r F q i0 l hll (by omega) ((hff.fs l (List.mem_of_getElem? hl)).mono (by decide))
   have hen:=sL (v:=v) (nb:=F.nb) (l:=l)
   have hrows:(F.fs.map (enc cq)).set i0 (enc cq l)=F.fs.map (enc cq):=by rw[map_set,fF hl]
   obtain⟨ee,hee⟩:∃ ee,ent v F.nb l=ee:=⟨_,rfl⟩
   rw[hee] at cen g4 hen
   cbv
   refine y4 (fun n=>match nqb n 5 with | true=>31 | false=>n) (.refl _) rfl okA cl1 (by exact⟨⟨rfl,rfl⟩,⟨rfl,rfl⟩,⟨rfl,rfl⟩,⟨rfl,rfl⟩,⟨rfl,rfl⟩,⟨rfl,rfl⟩,⟨rfl,rfl⟩,⟨rfl,rfl⟩,⟨rfl,rfl⟩,trivial⟩) rfl rfl rfl rfl rfl rfl rfl rfl ?_
   cbv
   refine y4 (fun n=>match nqb n 1000005 with | true=>31 | false=>n) (.refl _) rfl okA cen (by exact⟨⟨rfl,rfl⟩,⟨rfl,rfl⟩,⟨rfl,rfl⟩,⟨rfl,rfl⟩,⟨rfl,rfl⟩,⟨rfl,rfl⟩,trivial⟩) rfl rfl rfl rfl rfl rfl rfl rfl ?_
   cbv
   refine zG (fun h1=>?_) (fun h1=>?_)
   ·rw[if_pos h1] at g4
    cases g4
    cbv
    refine zY 6 (by cbv) ?_
    cbv
    refine qS (ps':=⟨[(4,.int .i64 (fun _=>-1)),(5,.bool (fun _=>true))],vO v r E q' a u⟩) (.trans (.unfocus 1000003 31 [] [] rfl rfl rfl ⟨rfl,by show l.length=(enc cq l).length;rw[zM]⟩) (.le (by cbv;repeat' first | exact trivial | exact lR | exact zI (decide_eq_true om) | apply And.intro) (by cbv;repeat' first | exact trivial | exact lR | exact zB rfl | exact⟨hrows⟩ | apply And.intro) rfl)) rfl (by exact⟨⟨rfl,rfl⟩,⟨rfl,rfl⟩,⟨rfl,rfl⟩,⟨rfl,rfl⟩,⟨rfl,rfl⟩,⟨rfl,rfl⟩,⟨rfl,rfl⟩,⟨rfl,rfl⟩,⟨rfl,rfl⟩,trivial⟩) (by rfl) (by exact⟨⟨rfl,by omega⟩,⟨rfl,by omega⟩,⟨rfl,by omega⟩,⟨rfl,by omega⟩,⟨rfl,by omega⟩,⟨rfl,by omega⟩,⟨rfl,by omega⟩,⟨rfl,by omega⟩,⟨rfl,by omega⟩,trivial⟩) ?_
    cbv
    exact okA
   ·rw[if_neg h1] at g4
    obtain⟨e,rfl⟩:∃ e:Nat,ee=e:=⟨ee.toNat,by omega⟩;rw[Int.toNat_natCast] at g4 hen;have he:=hen (by omega)
    have clv:=iJ v r F q e hFw he.1 (by omega) (by omega) hff
    have hlv:=zBZ (v:=v) (e:=e) (D:=F)
    obtain⟨rr,hrr⟩:∃ rr,lvR v e F=rr:=⟨_,rfl⟩
    rw[hrr] at clv g4 hlv
    cbv
    refine y4 (ps':=⟨[(0,.ptr 1000000 0),(1,.fn 90 [.ptr 1000006 0,.ptr 1000007 0,.ptr 1000008 0]),(6,.int .i64 (fun _=>(e:Int))),(19,.ptr 1000000 0),(20,.int .i64 (fun _=>(e:Int)))],vO v r F q a u⟩) id (.trans (.unfocus 1000003 31 [] [] rfl rfl rfl ⟨rfl,by show l.length=(enc cq l).length;rw[zM]⟩) (.le okZ (by cbv;repeat' first | exact trivial | exact lR | exact zB rfl | exact⟨hrows⟩ | apply And.intro) rfl)) rfl okA clv (by exact⟨⟨rfl,rfl⟩,⟨rfl,rfl⟩,⟨rfl,rfl⟩,⟨rfl,rfl⟩,⟨rfl,rfl⟩,trivial⟩) rfl rfl rfl rfl rfl rfl rfl rfl ?_
    cbv
    refine zG (fun h2=>?_) (fun h2=>?_)
    ·rw[if_pos h2] at g4
     cases g4
     cbv
     refine qS (.refl _) rfl (by exact⟨⟨rfl,rfl⟩,⟨rfl,rfl⟩,⟨rfl,rfl⟩,⟨rfl,rfl⟩,⟨rfl,rfl⟩,⟨rfl,rfl⟩,⟨rfl,rfl⟩,⟨rfl,rfl⟩,⟨rfl,rfl⟩,trivial⟩) (by rfl) (by exact⟨⟨rfl,by omega⟩,⟨rfl,by omega⟩,⟨rfl,by omega⟩,⟨rfl,by omega⟩,⟨rfl,by omega⟩,⟨rfl,by omega⟩,⟨rfl,by omega⟩,⟨rfl,by omega⟩,⟨rfl,by omega⟩,trivial⟩) ?_
     cbv
     exact okA
    ·rw[if_neg h2] at g4
     obtain⟨i,rfl⟩:∃ i:Nat,rr=i:=⟨rr.toNat,by omega⟩
     rw[Int.toNat_natCast] at g4 hlv
     have hi:=hlv (by omega)
     have hne:F.at i e≠0:=by have:=hi.2.2;grind
     have hpv:Pvs D (F.piv i e):=.step g2 hi.1 he.1 hne
     have cpv:=d8 v r F q i e hFw hi.1 he.1 hne (by omega) (by omega) (by omega) hff
     rw[show 65536 - q=65537 - (q+1) by omega] at g4
     generalize F.piv i e=F' at *
     cbv
     refine y4 id (.refl _) rfl okA cpv (by exact⟨⟨rfl,rfl⟩,⟨rfl,rfl⟩,⟨rfl,rfl⟩,⟨rfl,rfl⟩,⟨rfl,rfl⟩,trivial⟩) rfl rfl rfl rfl rfl rfl rfl rfl ?_
     cbv
     exact⟨(F',q+1),⟨hpv,by show q+1<2^31;omega,g4⟩,by show 65537 - (q+1)<65537 - q;omega,.le okZ (by cbv;repeat' first | exact trivial | exact lR | exact zB rfl | exact zC om | exact zQ rfl | exact zO (by assumption) | exact zS (by assumption) | exact zI (by assumption) | exact⟨rfl⟩ | apply And.intro) rfl⟩
  ·have hbn:wS F.bs a<0:=by omega
   have han:a∈F.nb:=haF.resolve_left fun w=>hbi (wX w)
   have hjn:=wX han
   obtain⟨j0,hj0⟩:∃ j0:Nat,wS F.nb a=j0:=⟨(wS F.nb a).toNat,by omega⟩
   have hg:=yR (wY hjn)
   rw[hj0,Int.toNat_natCast] at hg
   have hvio:vio a F=u.set j0 1:=by unfold vio;rw[if_neg hbi,hj0,Int.toNat_natCast,hFl.2,←hu]
   rw[hvio] at g4
   have cl1:=zGP v r F q a u j0 (by omega) (by omega) (by omega) hbn hj0 (by omega)
   obtain⟨l,hl⟩:∃ l,u.set j0 1=l:=⟨_,rfl⟩
   rw[hl] at cl1 g4
   have hll:l.length=F.nb.length+1:=by rw[←hl,List.length_set,hul,hFl.2]
   have hlu:u.length=l.length:=by rw[hll,hul,hFl.2]
   have hlfit:lfit (2^34) l:=fun x hx=>by
    rw[←hl,hu] at hx
    rcases List.mem_or_eq_of_mem_set hx with hx | hx
    ·rw[List.eq_of_mem_replicate hx];exact xQ (by decide)
    ·rw[hx];exact fits_one.mono (by decide)
   have cen:=zH7 v r F q l hll (by omega) hlfit
   rw[hlu] at cl1
   have hen:=sL (v:=v) (nb:=F.nb) (l:=l)
   obtain⟨ee,hee⟩:∃ ee,ent v F.nb l=ee:=⟨_,rfl⟩
   rw[hee] at cen g4 hen
   cbv
   refine y4 (fun n=>match nqb n 5 with | true=>31 | false=>n) (.refl _) rfl okA cl1 (by exact⟨⟨rfl,rfl⟩,⟨rfl,rfl⟩,⟨rfl,rfl⟩,⟨rfl,rfl⟩,⟨rfl,rfl⟩,⟨rfl,rfl⟩,⟨rfl,rfl⟩,⟨rfl,rfl⟩,⟨rfl,rfl⟩,trivial⟩) rfl rfl rfl rfl rfl rfl rfl rfl ?_
   cbv
   refine y4 (fun n=>match nqb n 1000005 with | true=>31 | false=>n) (.refl _) rfl okA cen (by exact⟨⟨rfl,rfl⟩,⟨rfl,rfl⟩,⟨rfl,rfl⟩,⟨rfl,rfl⟩,⟨rfl,rfl⟩,⟨rfl,rfl⟩,trivial⟩) rfl rfl rfl rfl rfl rfl rfl rfl ?_
   cbv
   refine zG (fun h1=>?_) (fun h1=>?_)
   ·rw[if_pos h1] at g4
    cases g4
    cbv
    refine zY 6 (by cbv) ?_
    cbv
    refine qS (.refl _) rfl (by exact⟨⟨rfl,rfl⟩,⟨rfl,rfl⟩,⟨rfl,rfl⟩,⟨rfl,rfl⟩,⟨rfl,rfl⟩,⟨rfl,rfl⟩,⟨rfl,rfl⟩,⟨rfl,rfl⟩,⟨rfl,rfl⟩,trivial⟩) (by rfl) (by exact⟨⟨rfl,by omega⟩,⟨rfl,by omega⟩,⟨rfl,by omega⟩,⟨rfl,by omega⟩,⟨rfl,by omega⟩,⟨rfl,by omega⟩,⟨rfl,by omega⟩,⟨rfl,by omega⟩,⟨rfl,by omega⟩,trivial⟩) ?_
    cbv
    exact⟨lR,zI (decide_eq_true om),trivial⟩
   ·rw[if_neg h1] at g4
    obtain⟨e,rfl⟩:∃ e:Nat,ee=e:=⟨ee.toNat,by omega⟩;rw[Int.toNat_natCast] at g4 hen;have he:=hen (by omega)
    have clv:=iJ v r F q e hFw he.1 (by omega) (by omega) hff
    have hlv:=zBZ (v:=v) (e:=e) (D:=F)
    obtain⟨rr,hrr⟩:∃ rr,lvR v e F=rr:=⟨_,rfl⟩
    rw[hrr] at clv g4 hlv
    cbv
    refine y4 (ps':=⟨[(0,.ptr 1000000 0),(1,.fn 90 [.ptr 1000006 0,.ptr 1000007 0,.ptr 1000008 0]),(6,.int .i64 (fun _=>(e:Int))),(19,.ptr 1000000 0),(20,.int .i64 (fun _=>(e:Int)))],vO v r F q a u⟩) id (.le okZ (by cbv;repeat' first | exact trivial | exact lR | exact zB rfl | exact zC om | exact zQ rfl | exact zO (by assumption) | exact zS (by assumption) | exact zI (by assumption) | exact⟨rfl⟩ | apply And.intro) rfl) rfl okA clv (by exact⟨⟨rfl,rfl⟩,⟨rfl,rfl⟩,⟨rfl,rfl⟩,⟨rfl,rfl⟩,⟨rfl,rfl⟩,trivial⟩) rfl rfl rfl rfl rfl rfl rfl rfl ?_
    cbv
    refine zG (fun h2=>?_) (fun h2=>?_)
    ·rw[if_pos h2] at g4
     cases g4
     cbv
     refine qS (.refl _) rfl (by exact⟨⟨rfl,rfl⟩,⟨rfl,rfl⟩,⟨rfl,rfl⟩,⟨rfl,rfl⟩,⟨rfl,rfl⟩,⟨rfl,rfl⟩,⟨rfl,rfl⟩,⟨rfl,rfl⟩,⟨rfl,rfl⟩,trivial⟩) (by rfl) (by exact⟨⟨rfl,by omega⟩,⟨rfl,by omega⟩,⟨rfl,by omega⟩,⟨rfl,by omega⟩,⟨rfl,by omega⟩,⟨rfl,by omega⟩,⟨rfl,by omega⟩,⟨rfl,by omega⟩,⟨rfl,by omega⟩,trivial⟩) ?_
     cbv
     exact okA
    ·rw[if_neg h2] at g4
     obtain⟨i,rfl⟩:∃ i:Nat,rr=i:=⟨rr.toNat,by omega⟩
     rw[Int.toNat_natCast] at g4 hlv
     have hi:=hlv (by omega)
     have hne:F.at i e≠0:=by have:=hi.2.2;grind
     have hpv:Pvs D (F.piv i e):=.step g2 hi.1 he.1 hne
     have cpv:=d8 v r F q i e hFw hi.1 he.1 hne (by omega) (by omega) (by omega) hff
     rw[show 65536 - q=65537 - (q+1) by omega] at g4
     generalize F.piv i e=F' at *
     cbv
     refine y4 id (.refl _) rfl okA cpv (by exact⟨⟨rfl,rfl⟩,⟨rfl,rfl⟩,⟨rfl,rfl⟩,⟨rfl,rfl⟩,⟨rfl,rfl⟩,trivial⟩) rfl rfl rfl rfl rfl rfl rfl rfl ?_
     cbv
     exact⟨(F',q+1),⟨hpv,by show q+1<2^31;omega,g4⟩,by show 65537 - (q+1)<65537 - q;omega,.le okZ (by cbv;repeat' first | exact trivial | exact lR | exact zB rfl | exact zC om | exact zQ rfl | exact zO (by assumption) | exact zS (by assumption) | exact zI (by assumption) | exact⟨rfl⟩ | apply And.intro) rfl⟩
 ·have hq:¬ q≤65536:=om
  rw[show 65537 - q=0 by omega,vV] at g4
  cases g4
  cbv
  refine zY 6 (by cbv) ?_
  cbv
  refine qS (.refl _) rfl (by exact⟨⟨rfl,rfl⟩,⟨rfl,rfl⟩,⟨rfl,rfl⟩,⟨rfl,rfl⟩,⟨rfl,rfl⟩,⟨rfl,rfl⟩,⟨rfl,rfl⟩,⟨rfl,rfl⟩,⟨rfl,rfl⟩,trivial⟩) (by rfl) (by exact⟨⟨rfl,by omega⟩,⟨rfl,by omega⟩,⟨rfl,by omega⟩,⟨rfl,by omega⟩,⟨rfl,by omega⟩,⟨rfl,by omega⟩,⟨rfl,by omega⟩,⟨rfl,by omega⟩,⟨rfl,by omega⟩,trivial⟩) ?_
  cbv
  exact⟨lR,zI (decide_eq_decide.2 ⟨fun w=>by omega,fun w=>by omega⟩),trivial⟩
end Go.Proofs.YtfainocfaddbdaaGreat
