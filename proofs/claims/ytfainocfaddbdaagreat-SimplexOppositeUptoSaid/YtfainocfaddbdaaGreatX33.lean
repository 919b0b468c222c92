/- A part of the proof: SyH, SyI. -/
import Derived.Test.YtfainocfaddbdaaGreatX32
set_option linter.all false
namespace Go.Proofs.YtfainocfaddbdaaGreat
open Go
set_option maxRecDepth 100000
set_option maxHeartbeats 4000000
def tHl (v r : Nat) (D : Dic) (p i : Nat) (l : List Rat) : List (Nat × Obj') :=
  [(1000000, .box [.int .i64 (fun _ => (v : Int)), .int .i64 (fun _ => (r : Int)), .osl 1000001 1 (fun _ => 0) (fun _ => D.bs.length), .osl 1000002 1 (fun _ => 0) (fun _ => D.nb.length), .osl 1000003 1 (fun _ => 0) (fun _ => D.fs.length), .osl 1000004 3 (fun _ => 0) (fun _ => D.ob.length), .int .i64 (fun _ => (p : Int))]),
   (1000001, .arr 1 (fun _ => enc ci D.bs)), (1000002, .arr 1 (fun _ => enc ci D.nb)), (1000003, .mat 3 (fun _ => D.fs.map (enc cq)) [(.osl 1000005 3 (fun _ => 0) (fun _ => l.length), fun _ => i)]), (1000004, .arr 3 (fun _ => enc cq D.ob)), (1000005, .arr 3 (fun _ => enc cq l))]
def tOl (v r : Nat) (D : Dic) (p : Nat) (l : List Rat) : List (Nat × Obj') :=
  [(1000000, .box [.int .i64 (fun _ => (v : Int)), .int .i64 (fun _ => (r : Int)), .osl 1000001 1 (fun _ => 0) (fun _ => D.bs.length), .osl 1000002 1 (fun _ => 0) (fun _ => D.nb.length), .osl 1000003 1 (fun _ => 0) (fun _ => D.fs.length), .osl 1000004 3 (fun _ => 0) (fun _ => D.ob.length), .int .i64 (fun _ => (p : Int))]),
   (1000001, .arr 1 (fun _ => enc ci D.bs)), (1000002, .arr 1 (fun _ => enc ci D.nb)), (1000003, .mat 3 (fun _ => D.fs.map (enc cq)) []), (1000004, .arr 3 (fun _ => enc cq D.ob)), (1000005, .arr 3 (fun _ => enc cq l))]
theorem zJP (v r:Nat)(D:Dic)(p:Nat)(i:Nat)(l:List Rat)(x:Nat):Sound 51 [.ptr 1000000 0,.int .i64 (fun _=>(x:Int))] (tHl v r D p i l) [] (.bool (fun _=>decide ((x:Int)<(v:Int)))) (tHl v r D p i l) []:=by
 refine xR eR rfl rfl rfl rfl rfl ?_
 cbv
 refine qS (.refl _) rfl (by exact⟨⟨rfl,rfl⟩,⟨rfl,rfl⟩,⟨rfl,rfl⟩,⟨rfl,rfl⟩,⟨rfl,rfl⟩,⟨rfl,rfl⟩,trivial⟩) (by rfl) (by exact⟨⟨rfl,by omega⟩,⟨rfl,by omega⟩,⟨rfl,by omega⟩,⟨rfl,by omega⟩,⟨rfl,by omega⟩,⟨rfl,by omega⟩,trivial⟩) ?_
 exact lR
theorem zH8 (v r:Nat)(D:Dic)(p:Nat)(i:Nat)(l:List Rat)(hl:l.length=D.nb.length+1)(hn:D.nb.length<2^40)(hf:lfit (2^34) l) :
  Sound 101 [.ptr 1000000 0,.osl 1000005 3 (fun _=>0) (fun _=>l.length)] (tHl v r D p i l) [] (.int .i64 (fun _=>ent v D.nb l)) (tHl v r D p i l) []:=by
 refine xR nC rfl rfl rfl rfl rfl ?_
 obtain⟨E,hE⟩:∃ E,ent v D.nb l=E:=⟨_,rfl⟩
 rw[hE]
 cbv
 refine z9 (σ:=Nat × Int) (fun s=>⟨[(0,.ptr 1000000 0),(1,.osl 1000005 3 (fun _=>0) (fun _=>l.length)),(5,.int .i64 (fun _=>s.2)),(11,.osl 1000002 1 (fun _=>0) (fun _=>D.nb.length)),(12,.int .i64 (fun _=>(D.nb.length:Int))),(13,.int .i64 (fun _=>(s.1:Int)))],(tHl v r D p i l)⟩)
  (fun s=>s.1≤D.nb.length∧(s.2=-1∨∃ k:Nat,s.2=k∧k<s.1)∧E=aQ v D.nb l (D.nb.drop s.1) s.1 s.2) (fun s=>D.nb.length - s.1)
  (0,-1) ⟨by omega,.inl rfl,by rw[←hE];rfl⟩ (.le okZ (by cbv;repeat' first | exact trivial | exact lR | exact zB rfl | exact zC om | exact zQ rfl | exact zO (by assumption) | exact zS (by assumption) | exact zI (by assumption) | exact⟨rfl⟩ | apply And.intro) rfl) ?_
 intro s hs
 obtain⟨j,b⟩:=s
 obtain⟨g1,g2,g3⟩:=hs
 dsimp only at g1 g2 g3
 cbv
 refine zG (fun h=>?_) (fun h=>?_)
 ·have hj:j<D.nb.length:=om
  obtain⟨y,hy⟩:=zU hj
  obtain⟨c,hc⟩:=zU (show j<l.length by omega)
  have hd:D.nb.drop j=y::D.nb.drop (j+1):=by
   rw[List.drop_eq_getElem_cons hj]
   congr 1
   rw[List.getElem?_eq_getElem hj] at hy
   exact Option.some.inj hy
  rw[hd,aQ,getD_some hc] at g3
  obtain⟨C,hC⟩:∃ C,zK c=C:=⟨_,rfl⟩
  have fc:Fits (2^34) c:=hf c (List.mem_of_getElem? hc)
  have szC:C.sz (2^34):=by rw[←hC];exact z7 fc
  have qC:C.q=c:=by rw[←hC];exact yN c
  have csc:=s86 C (by have:=szC.n;omega)
  rw[qC] at csc
  have hneg:yW c<0↔c<0:=by unfold yW;split <;> (try split) <;> constructor <;> intro _ <;> first | assumption | omega | (exfalso;omega) | grind
  generalize yW c=sc at *
  have cfr:=zJP v r D p i l y
  cbv
  refine⟨zR om om,?_⟩
  refine fZ hy om ?_
  cbv
  refine y4 id (.refl _) rfl okA cfr (by exact⟨⟨rfl,rfl⟩,⟨rfl,rfl⟩,⟨rfl,rfl⟩,⟨rfl,rfl⟩,⟨rfl,rfl⟩,⟨rfl,rfl⟩,trivial⟩) rfl rfl rfl rfl rfl rfl rfl rfl ?_
  cbv
  have hle:j+1≤D.nb.length:=hj
  have hmu:D.nb.length - (j+1)<D.nb.length - j:=by omega
  have keepg:b=-1∨∃ k:Nat,b=k∧k<j+1:=by
   rcases g2 with g2 | ⟨k,g2,g2'⟩
   ·exact .inl g2
   ·exact .inr ⟨k,g2,Nat.lt_succ_of_lt g2'⟩
  have newg:((j:Nat):Int)=-1∨∃ k:Nat,((j:Nat):Int)=k∧k<j+1:=.inr ⟨j,rfl,Nat.lt_succ_self j⟩
  refine yG (fun h1=>?_) (fun h1=>?_)
  ·cbv
   refine⟨zF om om,?_⟩
   cbv
   exact⟨(j+1,b),⟨hle,keepg,g3.trans (by rw[if_neg om])⟩,hmu,.le okZ (by cbv;repeat' first | exact trivial | exact lR | exact zB rfl | exact zC om | exact zQ rfl | exact zO (by assumption) | exact zS (by assumption) | exact zI (by assumption) | exact⟨rfl⟩ | apply And.intro) rfl⟩
  cbv
  refine⟨zR om om,?_⟩
  refine jL hc om hC ?_
  cbv
  refine cA csc ?_
  cbv
  refine yG (fun h2=>?_) (fun h2=>?_)
  rotate_left
  ·cbv
   refine⟨zF om om,?_⟩
   cbv
   exact⟨(j+1,b),⟨hle,keepg,g3.trans (by rw[if_neg (fun q=>h2 (hneg.2 q.2.1))])⟩,hmu,.le okZ (by cbv;repeat' first | exact trivial | exact lR | exact zB rfl | exact zC om | exact zQ rfl | exact zO (by assumption) | exact zS (by assumption) | exact zI (by assumption) | exact⟨rfl⟩ | apply And.intro) rfl⟩
  cbv
  refine yG (fun h3=>?_) (fun h3=>?_)
  ·cbv
   refine⟨zF om om,?_⟩
   cbv
   exact⟨(j+1,(j:Int)),⟨hle,newg,g3.trans (by rw[if_pos ⟨om,hneg.1 h2,.inl h3⟩])⟩,hmu,.le okZ (by cbv;repeat' first | exact trivial | exact lR | exact zB rfl | exact zC om | exact zQ rfl | exact zO (by assumption) | exact zS (by assumption) | exact zI (by assumption) | exact⟨rfl⟩ | apply And.intro) rfl⟩
  have h3':¬ b<0:=h3
  obtain⟨k,hk,hkj⟩:∃ k:Nat,b=k∧k<j:=by
   rcases g2 with g2 | ⟨k,g2,g2'⟩
   ·omega
   ·exact⟨k,g2,g2'⟩
  subst hk
  obtain⟨z,hz⟩:=zU (show k<D.nb.length by omega)
  rw[Int.toNat_natCast,getD_some hz] at g3
  cbv
  refine⟨zR om om,?_⟩
  refine fZ hz om ?_
  cbv
  refine zG (fun h4=>?_) (fun h4=>?_)
  ·cbv
   refine⟨zF om om,?_⟩
   cbv
   exact⟨(j+1,(j:Int)),⟨hle,newg,g3.trans (by rw[if_pos ⟨om,hneg.1 h2,.inr om⟩])⟩,hmu,.le okZ (by cbv;repeat' first | exact trivial | exact lR | exact zB rfl | exact zC om | exact zQ rfl | exact zO (by assumption) | exact zS (by assumption) | exact zI (by assumption) | exact⟨rfl⟩ | apply And.intro) rfl⟩
  ·have hq:¬ (v≤y∧c<0∧(((k:Nat):Int)<0∨y<z)):=fun q=>by
    rcases q.2.2 with q | q
    ·omega
    ·exact h4 om
   cbv
   refine⟨zF om om,?_⟩
   cbv
   exact⟨(j+1,(k:Int)),⟨hle,keepg,g3.trans (by rw[if_neg hq])⟩,hmu,.le okZ (by cbv;repeat' first | exact trivial | exact lR | exact zB rfl | exact zC om | exact zQ rfl | exact zO (by assumption) | exact zS (by assumption) | exact zI (by assumption) | exact⟨rfl⟩ | apply And.intro) rfl⟩
 ·have hj:j=D.nb.length:=by (try dsimp only [zL] at *);omega
  have hEb:b=E:=by rw[g3,hj,List.drop_length];rfl
  subst hEb
  cbv
  refine qS (.refl _) rfl (by exact⟨⟨rfl,rfl⟩,⟨rfl,rfl⟩,⟨rfl,rfl⟩,⟨rfl,rfl⟩,⟨rfl,rfl⟩,⟨rfl,rfl⟩,trivial⟩) (by rfl) (by exact⟨⟨rfl,by omega⟩,⟨rfl,by omega⟩,⟨rfl,by omega⟩,⟨rfl,by omega⟩,⟨rfl,by omega⟩,⟨rfl,by omega⟩,trivial⟩) ?_
  exact lR
theorem zJO (v r:Nat)(D:Dic)(p:Nat)(l:List Rat)(x:Nat):Sound 51 [.ptr 1000000 0,.int .i64 (fun _=>(x:Int))] (tOl v r D p l) [] (.bool (fun _=>decide ((x:Int)<(v:Int)))) (tOl v r D p l) []:=by
 refine xR eR rfl rfl rfl rfl rfl ?_
 cbv
 refine qS (.refl _) rfl (by exact⟨⟨rfl,rfl⟩,⟨rfl,rfl⟩,⟨rfl,rfl⟩,⟨rfl,rfl⟩,⟨rfl,rfl⟩,⟨rfl,rfl⟩,trivial⟩) (by rfl) (by exact⟨⟨rfl,by omega⟩,⟨rfl,by omega⟩,⟨rfl,by omega⟩,⟨rfl,by omega⟩,⟨rfl,by omega⟩,⟨rfl,by omega⟩,trivial⟩) ?_
 exact lR
theorem zH7 (v r:Nat)(D:Dic)(p:Nat)(l:List Rat)(hl:l.length=D.nb.length+1)(hn:D.nb.length<2^40)(hf:lfit (2^34) l) :
  Sound 101 [.ptr 1000000 0,.osl 1000005 3 (fun _=>0) (fun _=>l.length)] (tOl v r D p l) [] (.int .i64 (fun _=>ent v D.nb l)) (tOl v r D p l) []:=by
 refine xR nC rfl rfl rfl rfl rfl ?_
 obtain⟨E,hE⟩:∃ E,ent v D.nb l=E:=⟨_,rfl⟩
 rw[hE]
 cbv
 refine z9 (σ:=Nat × Int) (fun s=>⟨[(0,.ptr 1000000 0),(1,.osl 1000005 3 (fun _=>0) (fun _=>l.length)),(5,.int .i64 (fun _=>s.2)),(11,.osl 1000002 1 (fun _=>0) (fun _=>D.nb.length)),(12,.int .i64 (fun _=>(D.nb.length:Int))),(13,.int .i64 (fun _=>(s.1:Int)))],(tOl v r D p l)⟩)
  (fun s=>s.1≤D.nb.length∧(s.2=-1∨∃ k:Nat,s.2=k∧k<s.1)∧E=aQ v D.nb l (D.nb.drop s.1) s.1 s.2) (fun s=>D.nb.length - s.1)
  (0,-1) ⟨by omega,.inl rfl,by rw[←hE];rfl⟩ (.le okZ (by cbv;repeat' first | exact trivial | exact lR | exact zB rfl | exact zC om | exact zQ rfl | exact zO (by assumption) | exact zS (by assumption) | exact zI (by assumption) | exact⟨rfl⟩ | apply And.intro) rfl) ?_
 intro s hs
 obtain⟨j,b⟩:=s
 obtain⟨g1,g2,g3⟩:=hs
 dsimp only at g1 g2 g3
 cbv
 refine zG (fun h=>?_) (fun h=>?_)
 ·have hj:j<D.nb.length:=om
  obtain⟨y,hy⟩:=zU hj
  obtain⟨c,hc⟩:=zU (show j<l.length by omega)
  have hd:D.nb.drop j=y::D.nb.drop (j+1):=by
   rw[List.drop_eq_getElem_cons hj]
   congr 1
   rw[List.getElem?_eq_getElem hj] at hy
   exact Option.some.inj hy
  rw[hd,aQ,getD_some hc] at g3
  obtain⟨C,hC⟩:∃ C,zK c=C:=⟨_,rfl⟩
  have fc:Fits (2^34) c:=hf c (List.mem_of_getElem? hc)
  have szC:C.sz (2^34):=by rw[←hC];exact z7 fc
  have qC:C.q=c:=by rw[←hC];exact yN c
  have csc:=s86 C (by have:=szC.n;omega)
  rw[qC] at csc
  have hneg:yW c<0↔c<0:=by unfold yW;split <;> (try split) <;> constructor <;> intro _ <;> first | assumption | omega | (exfalso;omega) | grind
  generalize yW c=sc at *
  have cfr:=zJO v r D p l y
  cbv
  refine⟨zR om om,?_⟩
  refine fZ hy om ?_
  cbv
  refine y4 id (.refl _) rfl okA cfr (by exact⟨⟨rfl,rfl⟩,⟨rfl,rfl⟩,⟨rfl,rfl⟩,⟨rfl,rfl⟩,⟨rfl,rfl⟩,⟨rfl,rfl⟩,trivial⟩) rfl rfl rfl rfl rfl rfl rfl rfl ?_
  cbv
  have hle:j+1≤D.nb.length:=hj
  have hmu:D.nb.length - (j+1)<D.nb.length - j:=by omega
  have keepg:b=-1∨∃ k:Nat,b=k∧k<j+1:=by
   rcases g2 with g2 | ⟨k,g2,g2'⟩
   ·exact .inl g2
   ·exact .inr ⟨k,g2,Nat.lt_succ_of_lt g2'⟩
  have newg:((j:Nat):Int)=-1∨∃ k:Nat,((j:Nat):Int)=k∧k<j+1:=.inr ⟨j,rfl,Nat.lt_succ_self j⟩
  refine yG (fun h1=>?_) (fun h1=>?_)
  ·cbv
   refine⟨zF om om,?_⟩
   cbv
   exact⟨(j+1,b),⟨hle,keepg,g3.trans (by rw[if_neg om])⟩,hmu,.le okZ (by cbv;repeat' first | exact trivial | exact lR | exact zB rfl | exact zC om | exact zQ rfl | exact zO (by assumption) | exact zS (by assumption) | exact zI (by assumption) | exact⟨rfl⟩ | apply And.intro) rfl⟩
  cbv
  refine⟨zR om om,?_⟩
  refine jL hc om hC ?_
  cbv
  refine cA csc ?_
  cbv
  refine yG (fun h2=>?_) (fun h2=>?_)
  rotate_left
  ·cbv
   refine⟨zF om om,?_⟩
   cbv
   exact⟨(j+1,b),⟨hle,keepg,g3.trans (by rw[if_neg (fun q=>h2 (hneg.2 q.2.1))])⟩,hmu,.le okZ (by cbv;repeat' first | exact trivial | exact lR | exact zB rfl | exact zC om | exact zQ rfl | exact zO (by assumption) | exact zS (by assumption) | exact zI (by assumption) | exact⟨rfl⟩ | apply And.intro) rfl⟩
  cbv
  refine yG (fun h3=>?_) (fun h3=>?_)
  ·cbv
   refine⟨zF om om,?_⟩
   cbv
   exact⟨(j+1,(j:Int)),⟨hle,newg,g3.trans (by rw[if_pos ⟨om,hneg.1 h2,.inl h3⟩])⟩,hmu,.le okZ (by cbv;repeat' first | exact trivial | exact lR | exact zB rfl | exact zC om | exact zQ rfl | exact zO (by assumption) | exact zS (by assumption) | exact zI (by assumption) | exact⟨rfl⟩ | apply And.intro) rfl⟩
  have h3':¬ b<0:=h3
  obtain⟨k,hk,hkj⟩:∃ k:Nat,b=k∧k<j:=by
   rcases g2 with g2 | ⟨k,g2,g2'⟩
   ·omega
   ·exact⟨k,g2,g2'⟩
  subst hk
  obtain⟨z,hz⟩:=zU (show k<D.nb.length by omega)
  rw[Int.toNat_natCast,getD_some hz] at g3
  cbv
  refine⟨zR om om,?_⟩
  refine fZ hz om ?_
  cbv
  refine zG (fun h4=>?_) (fun h4=>?_)
  ·cbv
   refine⟨zF om om,?_⟩
   cbv
   exact⟨(j+1,(j:Int)),⟨hle,newg,g3.trans (by rw[if_pos ⟨om,hneg.1 h2,.inr om⟩])⟩,hmu,.le okZ (by cbv;repeat' first | exact trivial | exact lR | exact zB rfl | exact zC om | exact zQ rfl | exact zO (by assumption) | exact zS (by assumption) | exact zI (by assumption) | exact⟨rfl⟩ | apply And.intro) rfl⟩
  ·have hq:¬ (v≤y∧c<0∧(((k:Nat):Int)<0∨y<z)):=fun q=>by
    rcases q.2.2 with q | q
    ·omega
    ·exact h4 om
   cbv
   refine⟨zF om om,?_⟩
   cbv
   exact⟨(j+1,(k:Int)),⟨hle,keepg,g3.trans (by rw[if_neg hq])⟩,hmu,.le okZ (by cbv;repeat' first | exact trivial | exact lR | exact zB rfl | exact zC om | exact zQ rfl | exact zO (by assumption) | exact zS (by assumption) | exact zI (by assumption) | exact⟨rfl⟩ | apply And.intro) rfl⟩
 ·have hj:j=D.nb.length:=by (try dsimp only [zL] at *);omega
  have hEb:b=E:=by rw[g3,hj,List.drop_length];rfl
  subst hEb
  cbv
  refine qS (.refl _) rfl (by exact⟨⟨rfl,rfl⟩,⟨rfl,rfl⟩,⟨rfl,rfl⟩,⟨rfl,rfl⟩,⟨rfl,rfl⟩,⟨rfl,rfl⟩,trivial⟩) (by rfl) (by exact⟨⟨rfl,by omega⟩,⟨rfl,by omega⟩,⟨rfl,by omega⟩,⟨rfl,by omega⟩,⟨rfl,by omega⟩,⟨rfl,by omega⟩,trivial⟩) ?_
  exact lR
theorem zHR {n w:Nat}{k:Rat}{K:R}(h:zK k=K):(List.replicate n [D.bool false,D.sl [],D.sl []]).set w [D.bool K.neg,D.sl (lm K.num),D.sl (lm K.den)]=enc cq ((List.replicate n 0).set w k):=by
 rw[gG]
 exact bR h
theorem zD0:Pg.funcs[57]?=some Tryz.f57:=by rw[w7];rfl
theorem zMU (v r:Nat)(D:Dic)(p:Nat)(hl:D.ob.length=D.nb.length+1)(hn:D.nb.length<2^40)(hr:r<2^40)(hv:v<2^40)(hy:∀ y,y∈D.nb→y<2^41) :
  Sound 57 [.ptr 1000000 0,.osl 1000004 3 (fun _=>0) (fun _=>D.ob.length)] (tO v r D p) [] (.sl (fun _=>enc cq (t9 v r D.nb D.ob))) (tO v r D p) []:=by
 refine xR zD0 rfl rfl rfl rfl rfl ?_
 obtain⟨E,hE⟩:∃ E,t9 v r D.nb D.ob=E:=⟨_,rfl⟩
 rw[hE]
 cbv
 refine⟨yJ om om,wP om om,?_⟩
 refine z9 (σ:=Nat × List Rat) (fun s=>⟨[(0,.ptr 1000000 0),(1,.osl 1000004 3 (fun _=>0) (fun _=>D.ob.length)),(5,.osl 13 3 (fun _=>0) (fun _=>r)),(17,.osl 1000002 1 (fun _=>0) (fun _=>D.nb.length)),(18,.int .i64 (fun _=>(D.nb.length:Int))),(19,.int .i64 (fun _=>(s.1:Int)))],tO v r D p++[(13,.arr 3 (fun _=>enc cq s.2))]⟩)
  (fun s=>s.1≤D.nb.length∧s.2.length=r∧E=kQ v r D.ob (D.nb.drop s.1) s.1 s.2) (fun s=>D.nb.length - s.1)
  (0,List.replicate r 0) ⟨by omega,by simp,by rw[←hE];rfl⟩ (.le okZ (by cbv;repeat' first | exact trivial | exact lR | exact zB rfl | exact⟨rfl⟩ | exact zB (by show List.replicate (Int.toNat _) _=_;exact gG _) | apply And.intro) rfl) ?_
 intro s hs
 obtain⟨j,o⟩:=s
 obtain⟨g1,g2,g3⟩:=hs
 dsimp only at g1 g2 g3
 cbv
 refine zG (fun h=>?_) (fun h=>?_)
 ·have hj:j<D.nb.length:=om
  obtain⟨y,hyj⟩:=zU hj
  have hyl:=hy y (List.mem_of_getElem? hyj)
  obtain⟨c,hc⟩:=zU (show j<D.ob.length by omega)
  have hd:D.nb.drop j=y::D.nb.drop (j+1):=by
   rw[List.drop_eq_getElem_cons hj]
   congr 1
   rw[List.getElem?_eq_getElem hj] at hyj
   exact Option.some.inj hyj
  rw[hd,kQ,getD_some hc] at g3
  obtain⟨C,hC⟩:∃ C,zK c=C:=⟨_,rfl⟩
  have hle:j+1≤D.nb.length:=hj
  have hmu:D.nb.length - (j+1)<D.nb.length - j:=by omega
  cbv
  refine⟨zR om om,?_⟩
  refine fZ hyj om ?_
  cbv
  refine⟨zF om om,?_⟩
  cbv
  refine yG (fun h1=>?_) (fun h1=>?_)
  rotate_left
  ·cbv;refine⟨zF om om,?_⟩;cbv
   exact⟨(j+1,o),⟨hle,g2,g3.trans (by rw[if_neg (fun q=>h1 (by have:=q.1;(try dsimp only [zL] at *);omega))])⟩,hmu,.le okZ (by cbv;repeat' first | exact trivial | exact lR | exact zB rfl | exact zC om | exact zQ rfl | exact zO (by assumption) | exact zS (by assumption) | exact zI (by assumption) | exact⟨rfl⟩ | apply And.intro) rfl⟩
  cbv
  refine zG (fun h2=>?_) (fun h2=>?_)
  ·have hyv:v≤y:=by (try dsimp only [zL] at *);omega
   have hk:y - v<r:=by (try dsimp only [zL] at *);omega
   obtain⟨x,hx⟩:=zU (show y - v<o.length by omega)
   obtain⟨X,hX⟩:∃ X,zK x=X:=⟨_,rfl⟩
   cbv
   refine⟨zR om om,?_⟩
   refine jL hc om hC ?_
   cbv
   refine⟨zR om om,?_⟩
   refine jL hx om hX ?_
   cbv;refine⟨zF om om,?_⟩;cbv
   exact⟨(j+1,o.set (y - v) c),⟨hle,by rw[List.length_set];exact g2,g3.trans (by rw[if_pos ⟨hyv,hk⟩])⟩,hmu,.le okZ (by cbv;repeat' first | exact trivial | exact lR | exact zB rfl | exact⟨rfl⟩ | exact zB (by show (enc cq o).set (0+Int.toNat _) _=enc cq (o.set (y - v) c);rw[Nat.zero_add,show Int.toNat ((y:Int) - (v:Int))=y - v by omega];exact bR hC) | apply And.intro) rfl⟩
  ·cbv;refine⟨zF om om,?_⟩;cbv
   exact⟨(j+1,o),⟨hle,g2,g3.trans (by rw[if_neg (fun q=>h2 (by have:=q.2;have:=q.1;(try dsimp only [zL] at *);omega))])⟩,hmu,.le okZ (by cbv;repeat' first | exact trivial | exact lR | exact zB rfl | exact zC om | exact zQ rfl | exact zO (by assumption) | exact zS (by assumption) | exact zI (by assumption) | exact⟨rfl⟩ | apply And.intro) rfl⟩
 ·have hj:j=D.nb.length:=by (try dsimp only [zL] at *);omega
  have hEo:o=E:=by rw[g3,hj,List.drop_length];rfl
  subst hEo
  cbv
  refine qS (.trans (.le (ps':=⟨[(4,.osl 13 3 (fun _=>0) (fun _=>r))],tO v r D p++[(13,.arr 3 (fun _=>enc cq o))]⟩) okZ (by cbv;repeat' first | exact trivial | exact lR | exact zB rfl | exact zC om | exact zQ rfl | exact zO (by assumption) | exact zS (by assumption) | exact zI (by assumption) | exact⟨rfl⟩ | apply And.intro) rfl) (.frz 13 rfl rfl (by cbv;repeat' first | exact trivial | exact yD (by rw[zM];omega) | apply And.intro) (by cbv;repeat' first | exact trivial | apply And.intro))) rfl (by exact⟨⟨rfl,rfl⟩,⟨rfl,rfl⟩,⟨rfl,rfl⟩,⟨rfl,rfl⟩,⟨rfl,rfl⟩,trivial⟩) (by rfl) (by exact⟨⟨rfl,by omega⟩,⟨rfl,by omega⟩,⟨rfl,by omega⟩,⟨rfl,by omega⟩,⟨rfl,by omega⟩,trivial⟩) ?_
  refine zX ?_
  show ((enc cq o).drop 0).take r=enc cq o
  rw[List.drop_zero,List.take_of_length_le (by rw[zM];omega)]
theorem zJR (v r:Nat)(D:Dic)(p:Nat)(i:Nat)(l:List Rat)(hl:l.length=D.nb.length+1)(hn:D.nb.length<2^40)(hr:r<2^40)(hv:v<2^40)(hy:∀ y,y∈D.nb→y<2^41) :
  Sound 57 [.ptr 1000000 0,.osl 1000005 3 (fun _=>0) (fun _=>l.length)] (tHl v r D p i l) [] (.sl (fun _=>enc cq (t9 v r D.nb l))) (tHl v r D p i l) []:=by
 refine xR zD0 rfl rfl rfl rfl rfl ?_
 obtain⟨E,hE⟩:∃ E,t9 v r D.nb l=E:=⟨_,rfl⟩
 rw[hE]
 cbv
 refine⟨yJ om om,wP om om,?_⟩
 refine z9 (σ:=Nat × List Rat) (fun s=>⟨[(0,.ptr 1000000 0),(1,.osl 1000005 3 (fun _=>0) (fun _=>l.length)),(5,.osl 13 3 (fun _=>0) (fun _=>r)),(17,.osl 1000002 1 (fun _=>0) (fun _=>D.nb.length)),(18,.int .i64 (fun _=>(D.nb.length:Int))),(19,.int .i64 (fun _=>(s.1:Int)))],tHl v r D p i l++[(13,.arr 3 (fun _=>enc cq s.2))]⟩)
  (fun s=>s.1≤D.nb.length∧s.2.length=r∧E=kQ v r l (D.nb.drop s.1) s.1 s.2) (fun s=>D.nb.length - s.1)
  (0,List.replicate r 0) ⟨by omega,by simp,by rw[←hE];rfl⟩ (.le okZ (by cbv;repeat' first | exact trivial | exact lR | exact zB rfl | exact⟨rfl⟩ | exact zB (by show List.replicate (Int.toNat _) _=_;exact gG _) | apply And.intro) rfl) ?_
 intro s hs
 obtain⟨j,o⟩:=s
 obtain⟨g1,g2,g3⟩:=hs
 dsimp only at g1 g2 g3
 cbv
 refine zG (fun h=>?_) (fun h=>?_)
 ·have hj:j<D.nb.length:=om
  obtain⟨y,hyj⟩:=zU hj
  have hyl:=hy y (List.mem_of_getElem? hyj)
  obtain⟨c,hc⟩:=zU (show j<l.length by omega)
  have hd:D.nb.drop j=y::D.nb.drop (j+1):=by
   rw[List.drop_eq_getElem_cons hj]
   congr 1
   rw[List.getElem?_eq_getElem hj] at hyj
   exact Option.some.inj hyj
  rw[hd,kQ,getD_some hc] at g3
  obtain⟨C,hC⟩:∃ C,zK c=C:=⟨_,rfl⟩
  have hle:j+1≤D.nb.length:=hj
  have hmu:D.nb.length - (j+1)<D.nb.length - j:=by omega
  cbv
  refine⟨zR om om,?_⟩
  refine fZ hyj om ?_
  cbv
  refine⟨zF om om,?_⟩
  cbv
  refine yG (fun h1=>?_) (fun h1=>?_)
  rotate_left
  ·cbv;refine⟨zF om om,?_⟩;cbv
   exact⟨(j+1,o),⟨hle,g2,g3.trans (by rw[if_neg (fun q=>h1 (by have:=q.1;(try dsimp only [zL] at *);omega))])⟩,hmu,.le okZ (by cbv;repeat' first | exact trivial | exact lR | exact zB rfl | exact zC om | exact zQ rfl | exact zO (by assumption) | exact zS (by assumption) | exact zI (by assumption) | exact⟨rfl⟩ | apply And.intro) rfl⟩
  cbv
  refine zG (fun h2=>?_) (fun h2=>?_)
  ·have hyv:v≤y:=by (try dsimp only [zL] at *);omega
   have hk:y - v<r:=by (try dsimp only [zL] at *);omega
   obtain⟨x,hx⟩:=zU (show y - v<o.length by omega)
   obtain⟨X,hX⟩:∃ X,zK x=X:=⟨_,rfl⟩
   cbv
   refine⟨zR om om,?_⟩
   refine jL hc om hC ?_
   cbv
   refine⟨zR om om,?_⟩
   refine jL hx om hX ?_
   cbv;refine⟨zF om om,?_⟩;cbv
   exact⟨(j+1,o.set (y - v) c),⟨hle,by rw[List.length_set];exact g2,g3.trans (by rw[if_pos ⟨hyv,hk⟩])⟩,hmu,.le okZ (by cbv;repeat' first | exact trivial | exact lR | exact zB rfl | exact⟨rfl⟩ | exact zB (by show (enc cq o).set (0+Int.toNat _) _=enc cq (o.set (y - v) c);rw[Nat.zero_add,show Int.toNat ((y:Int) - (v:Int))=y - v by omega];exact bR hC) | apply And.intro) rfl⟩
  ·cbv;refine⟨zF om om,?_⟩;cbv
   exact⟨(j+1,o),⟨hle,g2,g3.trans (by rw[if_neg (fun q=>h2 (by have:=q.2;have:=q.1;(try dsimp only [zL] at *);omega))])⟩,hmu,.le okZ (by cbv;repeat' first | exact trivial | exact lR | exact zB rfl | exact zC om | exact zQ rfl | exact zO (by assumption) | exact zS (by assumption) | exact zI (by assumption) | exact⟨rfl⟩ | apply And.intro) rfl⟩
 ·have hj:j=D.nb.length:=by (try dsimp only [zL] at *);omega
  have hEo:o=E:=by rw[g3,hj,List.drop_length];rfl
  subst hEo
  cbv
  refine qS (.trans (.le (ps':=⟨[(4,.osl 13 3 (fun _=>0) (fun _=>r))],tHl v r D p i l++[(13,.arr 3 (fun _=>enc cq o))]⟩) okZ (by cbv;repeat' first | exact trivial | exact lR | exact zB rfl | exact zC om | exact zQ rfl | exact zO (by assumption) | exact zS (by assumption) | exact zI (by assumption) | exact⟨rfl⟩ | apply And.intro) rfl) (.frz 13 rfl rfl (by cbv;repeat' first | exact trivial | exact yD (by rw[zM];omega) | apply And.intro) (by cbv;repeat' first | exact trivial | apply And.intro))) rfl (by exact⟨⟨rfl,rfl⟩,⟨rfl,rfl⟩,⟨rfl,rfl⟩,⟨rfl,rfl⟩,⟨rfl,rfl⟩,⟨rfl,rfl⟩,trivial⟩) (by rfl) (by exact⟨⟨rfl,by omega⟩,⟨rfl,by omega⟩,⟨rfl,by omega⟩,⟨rfl,by omega⟩,⟨rfl,by omega⟩,⟨rfl,by omega⟩,trivial⟩) ?_
  refine zX ?_
  show ((enc cq o).drop 0).take r=enc cq o
  rw[List.drop_zero,List.take_of_length_le (by rw[zM];omega)]
theorem iI (v r:Nat)(D:Dic)(p:Nat)(hw:D.wf)(hn:D.nb.length<2^40)(hb:D.bs.length<2^40)(hv:v<2^40) :
  Sound 52 [.ptr 1000000 0] (tO v r D p) [] (.sl (fun _=>enc cq (pnt v D))) (tO v r D p) []:=by
 refine sF Tryz.f52 ?_
 have hlf:=hw.len
 obtain⟨E,hE⟩:∃ E,pnt v D=E:=⟨_,rfl⟩
 rw[hE]
 cbv
 refine⟨yJ om om,wP om om,?_⟩
 refine z9 (σ:=Nat × List Rat) (fun s=>⟨[(0,.ptr 1000000 0),(3,.osl 10 3 (fun _=>0) (fun _=>v)),(14,.osl 1000001 1 (fun _=>0) (fun _=>D.bs.length)),(15,.int .i64 (fun _=>(D.bs.length:Int))),(16,.int .i64 (fun _=>(s.1:Int)))],tO v r D p++[(10,.arr 3 (fun _=>enc cq s.2))]⟩)
  (fun s=>s.1≤D.bs.length∧s.2.length=v∧E=dK v D.cst (D.bs.drop s.1) s.1 s.2) (fun s=>D.bs.length - s.1)
  (0,List.replicate v 0) ⟨by omega,by simp,by rw[←hE];rfl⟩ (.le okZ (by cbv;repeat' first | exact trivial | exact lR | exact zB rfl | exact⟨rfl⟩ | exact zB (by show List.replicate (Int.toNat _) _=_;exact gG _) | apply And.intro) rfl) ?_
 intro s hs
 obtain⟨i,o⟩:=s
 obtain⟨g1,g2,g3⟩:=hs
 dsimp only at g1 g2 g3
 cbv
 refine zG (fun h=>?_) (fun h=>?_)
 ·have hi:i<D.bs.length:=om
  obtain⟨y,hy⟩:=zU hi
  have hd:D.bs.drop i=y::D.bs.drop (i+1):=by
   rw[List.drop_eq_getElem_cons hi]
   congr 1
   rw[List.getElem?_eq_getElem hi] at hy
   exact Option.some.inj hy
  rw[hd,dK] at g3
  obtain⟨c,hc⟩:∃ c,D.cst i=c:=⟨_,rfl⟩
  rw[hc] at g3
  obtain⟨C,hC⟩:∃ C,zK c=C:=⟨_,rfl⟩
  have cfr:=jW v r D p y
  have cco:=iK v r D p i hw (by omega) hn
  rw[hc,hC] at cco
  have hle:i+1≤D.bs.length:=hi
  have hmu:D.bs.length - (i+1)<D.bs.length - i:=by omega
  cbv
  refine⟨zR om om,?_⟩
  refine fZ hy om ?_
  cbv
  refine y4 id (.refl _) rfl okA cfr (by exact⟨⟨rfl,rfl⟩,⟨rfl,rfl⟩,⟨rfl,rfl⟩,⟨rfl,rfl⟩,⟨rfl,rfl⟩,trivial⟩) rfl rfl rfl rfl rfl rfl rfl rfl ?_
  cbv
  refine zG (fun h1=>?_) (fun h1=>?_)
  ·have hyv:y<v:=by (try dsimp only [zL] at *);omega
   obtain⟨x,hx⟩:=zU (show y<o.length by omega)
   obtain⟨X,hX⟩:∃ X,zK x=X:=⟨_,rfl⟩
   cbv
   refine y4 id (.refl _) rfl okA cco (by exact⟨⟨rfl,rfl⟩,⟨rfl,rfl⟩,⟨rfl,rfl⟩,⟨rfl,rfl⟩,⟨rfl,rfl⟩,trivial⟩) rfl rfl rfl rfl rfl rfl rfl rfl ?_
   cbv
   refine⟨zR om om,?_⟩
   refine jL hx om hX ?_
   cbv;refine⟨zF om om,?_⟩;cbv
   exact⟨(i+1,o.set y c),⟨hle,by rw[List.length_set];exact g2,g3.trans (by rw[if_pos hyv])⟩,hmu,.le okZ (by cbv;repeat' first | exact trivial | exact lR | exact zB rfl | exact⟨rfl⟩ | exact zB (by show (enc cq o).set (0+y) _=enc cq (o.set y c);rw[Nat.zero_add];exact bR hC) | apply And.intro) rfl⟩
  ·cbv;refine⟨zF om om,?_⟩;cbv
   exact⟨(i+1,o),⟨hle,g2,g3.trans (by rw[if_neg (fun q=>h1 om)])⟩,hmu,.le okZ (by cbv;repeat' first | exact trivial | exact lR | exact zB rfl | exact zC om | exact zQ rfl | exact zO (by assumption) | exact zS (by assumption) | exact zI (by assumption) | exact⟨rfl⟩ | apply And.intro) rfl⟩
 ·have hi:i=D.bs.length:=by (try dsimp only [zL] at *);omega
  have hEo:o=E:=by rw[g3,hi,List.drop_length];rfl
  subst hEo
  cbv
  refine qS (.trans (.le (ps':=⟨[(2,.osl 10 3 (fun _=>0) (fun _=>v))],tO v r D p++[(10,.arr 3 (fun _=>enc cq o))]⟩) okZ (by cbv;repeat' first | exact trivial | exact lR | exact zB rfl | exact zC om | exact zQ rfl | exact zO (by assumption) | exact zS (by assumption) | exact zI (by assumption) | exact⟨rfl⟩ | apply And.intro) rfl) (.frz 10 rfl rfl (by cbv;repeat' first | exact trivial | exact yD (by rw[zM];omega) | apply And.intro) (by cbv;repeat' first | exact trivial | apply And.intro))) rfl (by exact⟨⟨rfl,rfl⟩,⟨rfl,rfl⟩,⟨rfl,rfl⟩,⟨rfl,rfl⟩,⟨rfl,rfl⟩,trivial⟩) (by rfl) (by exact⟨⟨rfl,by omega⟩,⟨rfl,by omega⟩,⟨rfl,by omega⟩,⟨rfl,by omega⟩,⟨rfl,by omega⟩,trivial⟩) ?_
  refine zX ?_
  show ((enc cq o).drop 0).take v=enc cq o
  rw[List.drop_zero,List.take_of_length_le (by rw[zM];omega)]
theorem zK0 (v r:Nat)(D:Dic)(p e:Nat)(k:Rat)(hw:D.wf)(he:e<D.nb.length)(hn:D.nb.length<2^40)(hb:D.bs.length<2^40)(hv:v<2^40)(hf:D.fit (2^32))(hk:Fits (2^32) k) :
  Sound 53 [.ptr 1000000 0,.int .i64 (fun _=>(e:Int)),rv (zK k)] (tO v r D p) [] (.sl (fun _=>enc cq (c8 v D e k))) (tO v r D p) []:=by
 refine sF Tryz.f53 ?_
 have hlf:=hw.len
 obtain⟨E,hE⟩:∃ E,c8 v D e k=E:=⟨_,rfl⟩
 obtain⟨w,hwe⟩:=zU he
 obtain⟨K,hK⟩:∃ K,zK k=K:=⟨_,rfl⟩
 have szK:K.sz (2^32):=by rw[←hK];exact z7 hk
 have qK:K.q=k:=by rw[←hK];exact yN k
 have cfw:=jW v r D p w
 unfold c8 at hE
 rw[getD_some hwe] at hE
 rw[hK]
 obtain⟨O0,hO0⟩:∃ O0,(if w<v then (List.replicate v 0).set w k else List.replicate v (0:Rat))=O0:=⟨_,rfl⟩
 rw[hO0] at hE
 have hO0l:O0.length=v:=by rw[←hO0];split <;> simp
 rw[show c8 v D e k=E from by unfold c8;rw[getD_some hwe,hO0];exact hE]
 cbv
 refine⟨yJ om om,wP om om,?_⟩
 refine⟨zR om om,?_⟩
 refine fZ hwe om ?_
 cbv
 refine y4 id (.refl _) rfl okA cfw (by exact⟨⟨rfl,rfl⟩,⟨rfl,rfl⟩,⟨rfl,rfl⟩,⟨rfl,rfl⟩,⟨rfl,rfl⟩,trivial⟩) rfl rfl rfl rfl rfl rfl rfl rfl ?_
 cbv
 refine j9 (σ:=Unit) (fun _=>⟨[(0,.ptr 1000000 0),(1,.int .i64 (fun _=>(e:Int))),(5,.ptr 5 0),(7,.osl 15 3 (fun _=>0) (fun _=>v))],tO v r D p++[(5,.box (cR K)),(15,.arr 3 (fun _=>enc cq O0))]⟩) (fun _=>True) (fun h=>?_) (fun h=>?_) ?_
 ·have hwv:w<v:=by (try dsimp only [zL] at *);omega
  obtain⟨Z,hZ⟩:∃ Z,zK 0=Z:=⟨_,rfl⟩
  have hrep:(List.replicate v (0:Rat))[w]?=some 0:=by rw[List.getElem?_replicate,if_pos hwv]
  cbv
  refine⟨zR om om,?_⟩
  refine oF (gG _) hrep om hZ ?_
  cbv
  refine⟨(),trivial,.le okZ (by cbv;repeat' first | exact trivial | exact lR | exact zB rfl | exact⟨rfl⟩ | exact zB (by show (List.replicate (Int.toNat _) _).set (0+w) _=enc cq O0;rw[Nat.zero_add,←hO0,if_pos hwv];exact zHR hK) | apply And.intro) rfl⟩
 ·have hwv:¬ w<v:=by (try dsimp only [zL] at *);omega
  cbv
  refine⟨(),trivial,.le okZ (by cbv;repeat' first | exact trivial | exact lR | exact zB rfl | exact⟨rfl⟩ | exact zB (by show List.replicate (Int.toNat _) _=enc cq O0;rw[←hO0,if_neg hwv];exact gG _) | apply And.intro) rfl⟩
 intro _ _
 cbv
 refine z9 (σ:=Nat × List Rat) (fun s=>⟨[(0,.ptr 1000000 0),(1,.int .i64 (fun _=>(e:Int))),(5,.ptr 5 0),(7,.osl 15 3 (fun _=>0) (fun _=>v)),(33,.osl 1000001 1 (fun _=>0) (fun _=>D.bs.length)),(34,.int .i64 (fun _=>(D.bs.length:Int))),(35,.int .i64 (fun _=>(s.1:Int)))],tO v r D p++[(5,.box (cR K)),(15,.arr 3 (fun _=>enc cq s.2))]⟩)
  (fun s=>s.1≤D.bs.length∧s.2.length=v∧E=dK v (fun i=>k * D.at i e) (D.bs.drop s.1) s.1 s.2) (fun s=>D.bs.length - s.1)
  (0,O0) ⟨by omega,hO0l,by rw[←hE];rfl⟩ (.le okZ (by cbv;repeat' first | exact trivial | exact lR | exact zB rfl | exact zC om | exact zQ rfl | exact zO (by assumption) | exact zS (by assumption) | exact zI (by assumption) | exact⟨rfl⟩ | apply And.intro) rfl) ?_
 intro s hs
 obtain⟨i,o⟩:=s
 obtain⟨g1,g2,g3⟩:=hs
 dsimp only at g1 g2 g3
 cbv
 refine zG (fun h=>?_) (fun h=>?_)
 ·have hi:i<D.bs.length:=om
  obtain⟨y,hy⟩:=zU hi
  have hd:D.bs.drop i=y::D.bs.drop (i+1):=by
   rw[List.drop_eq_getElem_cons hi]
   congr 1
   rw[List.getElem?_eq_getElem hi] at hy
   exact Option.some.inj hy
  rw[hd,dK] at g3
  obtain⟨l,hl⟩:=zU (show i<D.fs.length by omega)
  have hll:=hw.row i l hl
  have hgl:D.fs.getD i []=l:=getD_some hl
  have hrow:=kG D.fs i
  have hsame:=p6 D.fs i
  rw[hgl] at hrow hsame
  obtain⟨a,ha⟩:=zU (show e<l.length by omega)
  have hat:D.at i e=a:=by unfold Dic.at;rw[hgl,getD_some ha]
  have fl:=hf.fs l (List.mem_of_getElem? hl)
  have fa:Fits (2^32) a:=fl a (List.mem_of_getElem? ha)
  obtain⟨A,hA⟩:∃ A,zK a=A:=⟨_,rfl⟩
  have szA:A.sz (2^32):=by rw[←hA];exact z7 fa
  have qA:A.q=a:=by rw[←hA];exact yN a
  rw[hat] at g3
  obtain⟨c,hc⟩:∃ c,k * a=c:=⟨_,rfl⟩
  rw[hc] at g3
  obtain⟨C,hC⟩:∃ C,zK c=C:=⟨_,rfl⟩
  have cm:=s199 K A (szK.mono (by decide)) (szA.mono (by decide))
  rw[qK,qA,hc,hC] at cm
  have cfr:=jW v r D p y
  have hle:i+1≤D.bs.length:=hi
  have hmu:D.bs.length - (i+1)<D.bs.length - i:=by omega
  cbv
  refine⟨zR om om,?_⟩
  refine fZ hy om ?_
  cbv
  refine y4 id (.refl _) rfl okA cfr (by exact⟨⟨rfl,rfl⟩,⟨rfl,rfl⟩,⟨rfl,rfl⟩,⟨rfl,rfl⟩,⟨rfl,rfl⟩,trivial⟩) rfl rfl rfl rfl rfl rfl rfl rfl ?_
  cbv
  refine zG (fun h1=>?_) (fun h1=>?_)
  ·have hyv:y<v:=by (try dsimp only [zL] at *);omega
   obtain⟨x,hx⟩:=zU (show y<o.length by omega)
   obtain⟨X,hX⟩:∃ X,zK x=X:=⟨_,rfl⟩
   cbv
   refine mA 14 (.focus 1000003 31 (fun _=>i) rfl rfl (d4 (by show i<(D.fs.map (enc cq)).length;rw[List.length_map];omega))) (by cbv) ?_
   cbv
   refine⟨zR om om,?_⟩
   refine cL om ?_
   cbv
   refine⟨zR om (by show (e:Int)<(((D.fs.map (enc cq)).getD i []).length:Int);rw[hrow,zM];omega),?_⟩
   refine oF hrow ha om hA ?_
   cbv
   refine dA cm ?_
   cbv
   refine⟨zR om om,?_⟩
   refine jL hx om hX ?_
   cbv;refine⟨zF om om,?_⟩;cbv
   exact⟨(i+1,o.set y c),⟨hle,by rw[List.length_set];exact g2,g3.trans (by rw[if_pos hyv])⟩,hmu,.trans (.unfocus 1000003 31 [] [] rfl rfl rfl ⟨rfl,rfl⟩) (.le okZ (by cbv;repeat' first | exact trivial | exact lR | exact zB rfl | exact⟨by show (D.fs.map (enc cq)).set i ((D.fs.map (enc cq)).getD i [])=D.fs.map (enc cq);rw[hrow];exact hsame⟩ | exact zB (by show (enc cq o).set (0+y) _=enc cq (o.set y c);rw[Nat.zero_add];exact bR hC) | apply And.intro) rfl)⟩
  ·cbv;refine⟨zF om om,?_⟩;cbv
   exact⟨(i+1,o),⟨hle,g2,g3.trans (by rw[if_neg (fun q=>h1 om)])⟩,hmu,.le okZ (by cbv;repeat' first | exact trivial | exact lR | exact zB rfl | exact zC om | exact zQ rfl | exact zO (by assumption) | exact zS (by assumption) | exact zI (by assumption) | exact⟨rfl⟩ | apply And.intro) rfl⟩
 ·have hi:i=D.bs.length:=by (try dsimp only [zL] at *);omega
  have hEo:o=E:=by rw[g3,hi,List.drop_length];rfl
  subst hEo
  cbv
  refine qS (.trans (.le (ps':=⟨[(6,.osl 15 3 (fun _=>0) (fun _=>v))],tO v r D p++[(15,.arr 3 (fun _=>enc cq o))]⟩) okZ (by cbv;repeat' first | exact trivial | exact lR | exact zB rfl | exact zC om | exact zQ rfl | exact zO (by assumption) | exact zS (by assumption) | exact zI (by assumption) | exact⟨rfl⟩ | apply And.intro) rfl) (.frz 15 rfl rfl (by cbv;repeat' first | exact trivial | exact yD (by rw[zM];omega) | apply And.intro) (by cbv;repeat' first | exact trivial | apply And.intro))) rfl (by exact⟨⟨rfl,rfl⟩,⟨rfl,rfl⟩,⟨rfl,rfl⟩,⟨rfl,rfl⟩,⟨rfl,rfl⟩,trivial⟩) (by rfl) (by exact⟨⟨rfl,by omega⟩,⟨rfl,by omega⟩,⟨rfl,by omega⟩,⟨rfl,by omega⟩,⟨rfl,by omega⟩,trivial⟩) ?_
  refine zX ?_
  show ((enc cq o).drop 0).take v=enc cq o
  rw[List.drop_zero,List.take_of_length_le (by rw[zM];omega)]
end Go.Proofs.YtfainocfaddbdaaGreat
