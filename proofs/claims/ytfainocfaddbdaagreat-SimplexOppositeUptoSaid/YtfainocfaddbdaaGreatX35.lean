/- A part of the proof: SyM. -/
import Derived.Test.YtfainocfaddbdaaGreatX34
import Derived.Test.YtfainocfaddbdaaGreatX32
import Derived.Test.YtfainocfaddbdaaGreatX28
set_option linter.all false
namespace Go.Proofs.YtfainocfaddbdaaGreat
open Go
set_option maxRecDepth 100000
set_option maxHeartbeats 4000000
def fK (v r:Nat) (D:Dic) (p:Nat):List (Nat × Obj') :=
 [(1000000,.box [.int .i64 (fun _=>(v:Int)),.int .i64 (fun _=>(r:Int)),.osl 1000001 1 (fun _=>0) (fun _=>D.bs.length),.osl 80 1 (fun _=>0) (fun _=>D.nb.length),.osl 1000003 1 (fun _=>0) (fun _=>D.fs.length),.osl 125 3 (fun _=>0) (fun _=>D.ob.length),.int .i64 (fun _=>(p:Int))]),(1000001,.arr 1 (fun _=>enc ci D.bs)),(1000003,.mat 3 (fun _=>D.fs.map (enc cq)) [])]
def fE (D:Dic):List (Nat × Obj'):=[(80,.arr 1 (fun _=>enc ci D.nb)),(125,.arr 3 (fun _=>enc cq D.ob))]
theorem zP8 (v r:Nat):yO [[.int .i64 (fun _=>(v:Int)+(r:Int))]]=enc ci [v+r]:=by
 show [[D.int .i64 ((v:Int)+(r:Int))]]=[[D.int .i64 ((v+r:Nat):Int)]]
 rw[Int.natCast_add]
def refV:Option (List Rat)→PV
 | none=>.nil
 | some l=>.sl (fun _=>enc cq l)
theorem gX {α:Type}(f:α→List PV)(l:List α)(i:Nat):(enc f l).eraseIdx i=enc f (l.eraseIdx i):=by
 unfold enc
 induction l generalizing i with
 | nil=>rfl
 | cons a r ih =>
  cases i with
  | zero=>rfl
  | succ i=>simp only[List.map_cons,List.eraseIdx_cons_succ,ih]
theorem zMT (v r:Nat)(D:Dic)(p:Nat)(hw:D.wf)(hn:D.nb.length<2^28)(hb:D.bs.length<2^28)(hp:p<2^15)(hv:v<2^28)(hr:r<2^28)(hy:∀ y,y∈D.bs∨y∈D.nb→y<v+r)(hf:D.fit (2^30))(hfA:¬ wrs v D<0→∀ E,Pvs (D.aux v (v+r)) E→E.fit (2^30)) :
  Sound 49 [.ptr 1000000 0] (fK v r D p) (fE D) (.tup [refV (v4 v r D p).2.2.1,.bool (fun _=>(v4 v r D p).2.2.2)]) (fK v r (v4 v r D p).1 (v4 v r D p).2.1) (fE (v4 v r D p).1):=by
 refine sF Tryz.f49 ?_
 have hlf:=hw.len
 obtain⟨⟨E,q',ref,ok⟩,hE⟩:∃ E,v4 v r D p=E:=⟨_,rfl⟩
 rw[hE]
 dsimp only
 unfold v4 at hE
 have hws:=lZ v D
 obtain⟨W,hW⟩:∃ W,wrs v D=W:=⟨_,rfl⟩
 rw[hW] at hE hws hfA
 have hWg:W=wrGo v D D.bs 0 (-1):=hW.symm
 cbv
 refine z9 (σ:=Nat × Int) (fun s=>⟨[(1,.ptr 1 0),(4,.int .i64 (fun _=>s.2)),(23,.osl 1000001 1 (fun _=>0) (fun _=>D.bs.length)),(24,.int .i64 (fun _=>(D.bs.length:Int))),(25,.int .i64 (fun _=>(s.1:Int)))],fK v r D p++fE D++[(1,.box [.ptr 1000000 0])]⟩)
  (fun s=>s.1≤D.bs.length∧(s.2=-1∨∃ k:Nat,s.2=k∧k<s.1)∧W=wrGo v D (D.bs.drop s.1) s.1 s.2) (fun s=>D.bs.length - s.1)
  (0,-1) ⟨by omega,.inl rfl,hWg⟩ (.le okZ (by cbv;repeat' first | exact trivial | exact lR | exact zB rfl | exact zC om | exact zQ rfl | exact zO (by assumption) | exact zS (by assumption) | exact zI (by assumption) | exact⟨rfl⟩ | apply And.intro) rfl) ?_
 intro s hs
 obtain⟨i,b⟩:=s
 obtain⟨g1,g2,g3⟩:=hs
 dsimp only at g1 g2 g3
 cbv
 refine zG (fun h=>?_) (fun h=>?_)
 ·have hi:i<D.bs.length:=om
  obtain⟨y,hyi⟩:=zU hi
  rw[qF hyi,wrGo] at g3
  obtain⟨c,hc⟩:∃ c,D.cst i=c:=⟨_,rfl⟩
  rw[hc] at g3
  have fc:Fits (2^30) c:=by rw[←hc];exact eW hf (by decide) i D.nb.length
  obtain⟨C,hC⟩:∃ C,zK c=C:=⟨_,rfl⟩
  have szC:C.sz (2^30):=by rw[←hC];exact z7 fc
  have qC:C.q=c:=by rw[←hC];exact yN c
  have csc:=s86 C (by have:=szC.n;omega)
  rw[qC] at csc
  have hneg:yW c<0↔c<0:=by unfold yW;split <;> (try split) <;> constructor <;> intro _ <;> first | assumption | omega | (exfalso;omega) | grind
  have cfr:=jW v r D p y
  have cco:=iK v r D p i hw (by omega) (by omega)
  rw[hc,hC] at cco
  have hle:i+1≤D.bs.length:=hi
  have hmu:D.bs.length - (i+1)<D.bs.length - i:=by omega
  have keepg:b=-1∨∃ k:Nat,b=k∧k<i+1:=by
   rcases g2 with g2 | ⟨k,g2,g2'⟩
   ·exact .inl g2
   ·exact .inr ⟨k,g2,Nat.lt_succ_of_lt g2'⟩
  have newg:((i:Nat):Int)=-1∨∃ k:Nat,((i:Nat):Int)=k∧k<i+1:=.inr ⟨i,rfl,Nat.lt_succ_self i⟩
  generalize yW c=sc at *
  cbv
  refine⟨zR om om,?_⟩
  refine fZ hyi om ?_
  cbv
  refine zY 25 (by cbv) ?_
  cbv
  refine wQ (fun n=>match nqb n 1000002 with | true=>80 | false=>match nqb n 1000004 with | true=>125 | false=>n) okA cfr (by exact⟨⟨rfl,rfl⟩,⟨rfl,rfl⟩,⟨rfl,rfl⟩,⟨rfl,rfl⟩,⟨rfl,rfl⟩,trivial⟩) rfl rfl rfl rfl rfl rfl ?_
  cbv
  refine yG (fun h1=>?_) (fun h1=>?_)
  ·cbv;refine⟨zF om om,?_⟩;cbv
   exact⟨(i+1,b),⟨hle,keepg,g3.trans (by rw[if_neg (fun w=>by have:=w.1;(try dsimp only [zL] at *);omega)])⟩,hmu,.le okZ (by cbv;repeat' first | exact trivial | exact lR | exact zB rfl | exact zC om | exact zQ rfl | exact zO (by assumption) | exact zS (by assumption) | exact zI (by assumption) | exact⟨rfl⟩ | apply And.intro) rfl⟩
  cbv
  refine wQ (fun n=>match nqb n 1000002 with | true=>80 | false=>match nqb n 1000004 with | true=>125 | false=>n) okA cco (by exact⟨⟨rfl,rfl⟩,⟨rfl,rfl⟩,⟨rfl,rfl⟩,⟨rfl,rfl⟩,⟨rfl,rfl⟩,trivial⟩) rfl rfl rfl rfl rfl rfl ?_
  cbv
  refine dA csc ?_
  cbv
  refine yG (fun h2=>?_) (fun h2=>?_)
  rotate_left
  ·cbv;refine⟨zF om om,?_⟩;cbv
   exact⟨(i+1,b),⟨hle,keepg,g3.trans (by rw[if_neg (fun w=>h2 (hneg.2 w.2.1))])⟩,hmu,.le okZ (by cbv;repeat' first | exact trivial | exact lR | exact zB rfl | exact zC om | exact zQ rfl | exact zO (by assumption) | exact zS (by assumption) | exact zI (by assumption) | exact⟨rfl⟩ | apply And.intro) rfl⟩
  have hc0:c<0:=hneg.1 h2
  have hyv:v≤y:=by (try dsimp only [zL] at *);omega
  cbv
  refine yG (fun h3=>?_) (fun h3=>?_)
  ·have h3':b<0:=h3
   cbv;refine⟨zF om om,?_⟩;cbv
   exact⟨(i+1,(i:Int)),⟨hle,newg,g3.trans (by rw[if_pos ⟨hyv,hc0,.inl h3'⟩])⟩,hmu,.le okZ (by cbv;repeat' first | exact trivial | exact lR | exact zB rfl | exact zC om | exact zQ rfl | exact zO (by assumption) | exact zS (by assumption) | exact zI (by assumption) | exact⟨rfl⟩ | apply And.intro) rfl⟩
  have h3':¬ b<0:=h3
  obtain⟨k,hk,hki⟩:∃ k:Nat,b=k∧k<i:=by
   rcases g2 with g2 | ⟨k,g2,g2'⟩
   ·omega
   ·exact⟨k,g2,g2'⟩
  subst hk
  rw[Int.toNat_natCast] at g3
  obtain⟨d,hd⟩:∃ d,D.cst k=d:=⟨_,rfl⟩
  rw[hd] at g3
  have fd:Fits (2^30) d:=by rw[←hd];exact eW hf (by decide) k D.nb.length
  obtain⟨Dd,hDd⟩:∃ C,zK d=C:=⟨_,rfl⟩
  have szD:Dd.sz (2^30):=by rw[←hDd];exact z7 fd
  have qD:Dd.q=d:=by rw[←hDd];exact yN d
  have cck:=iK v r D p k hw (by omega) (by omega)
  rw[hd,hDd] at cck
  have ccm:=s165 C Dd (szC.mono (by decide)) (szD.mono (by decide))
  rw[qC,qD] at ccm
  have hcm:gE c d<0↔c<d:=by unfold gE;split <;> (try split) <;> constructor <;> intro _ <;> first | assumption | omega | (exfalso;omega) | grind
  generalize gE c d=cm at *
  cbv
  refine wQ (fun n=>match nqb n 1000002 with | true=>80 | false=>match nqb n 1000004 with | true=>125 | false=>n) okA cco (by exact⟨⟨rfl,rfl⟩,⟨rfl,rfl⟩,⟨rfl,rfl⟩,⟨rfl,rfl⟩,⟨rfl,rfl⟩,trivial⟩) rfl rfl rfl rfl rfl rfl ?_
  cbv
  refine wQ (fun n=>match nqb n 1000002 with | true=>80 | false=>match nqb n 1000004 with | true=>125 | false=>n) okA cck (by exact⟨⟨rfl,rfl⟩,⟨rfl,rfl⟩,⟨rfl,rfl⟩,⟨rfl,rfl⟩,⟨rfl,rfl⟩,trivial⟩) rfl rfl rfl rfl rfl rfl ?_
  cbv
  refine dA ccm ?_
  cbv
  refine zG (fun h4=>?_) (fun h4=>?_)
  ·cbv;refine⟨zF om om,?_⟩;cbv
   exact⟨(i+1,(i:Int)),⟨hle,newg,g3.trans (by rw[if_pos ⟨hyv,hc0,.inr (hcm.1 h4)⟩])⟩,hmu,.le okZ (by cbv;repeat' first | exact trivial | exact lR | exact zB rfl | exact zC om | exact zQ rfl | exact zO (by assumption) | exact zS (by assumption) | exact zI (by assumption) | exact⟨rfl⟩ | apply And.intro) rfl⟩
  ·have hq:¬ (v≤y∧c<0∧(((k:Nat):Int)<0∨c<d)):=fun w=>by
    rcases w.2.2 with w | w
    ·omega
    ·exact h4 (hcm.2 w)
   cbv;refine⟨zF om om,?_⟩;cbv
   exact⟨(i+1,(k:Int)),⟨hle,keepg,g3.trans (by rw[if_neg hq])⟩,hmu,.le okZ (by cbv;repeat' first | exact trivial | exact lR | exact zB rfl | exact zC om | exact zQ rfl | exact zO (by assumption) | exact zS (by assumption) | exact zI (by assumption) | exact⟨rfl⟩ | apply And.intro) rfl⟩
 have hi:i=D.bs.length:=by (try dsimp only [zL] at *);omega
 have hbW:b=W:=by rw[g3,hi,List.drop_length];rfl
 subst hbW
 clear g3 g2 hWg
 cbv
 refine zG (fun h1=>?_) (fun h1=>?_)
 ·have h1':b<0:=h1
  rw[if_pos h1'] at hE
  cases hE
  cbv
  refine p8 (ps':=⟨[(2,.nil),(3,.tt)],fK v r D p++fE D⟩) id (.le okZ (by cbv;repeat' first | exact trivial | exact lR | exact zB rfl | exact zC om | exact zQ rfl | exact zO (by assumption) | exact zS (by assumption) | exact zI (by assumption) | exact⟨rfl⟩ | apply And.intro) rfl) rfl (by exact⟨⟨rfl,rfl⟩,⟨rfl,rfl⟩,⟨rfl,rfl⟩,⟨rfl,rfl⟩,⟨rfl,rfl⟩,trivial⟩) (by rfl) (by exact⟨⟨rfl,by omega⟩,⟨rfl,by omega⟩,⟨rfl,by omega⟩,trivial⟩) ?_
  cbv
  exact okA
 have h1':¬ b<0:=h1
 rw[if_neg h1'] at hE
 replace hfA:=hfA h1'
 obtain⟨w,hw0⟩:∃ w:Nat,b=w:=⟨b.toNat,by omega⟩
 subst hw0
 obtain⟨w1,w2,w3,w4⟩:=hws.2 (by omega)
 rw[Int.toNat_natCast] at w1 w2 w3 hE
 clear w4 hws h1 h1' g1 hi hW
 obtain⟨a,hva⟩:∃ a,v+r=a:=⟨_,rfl⟩
 rw[hva] at hE hfA hy
 cbv
 refine zHI 16 [(15,7)] (by cbv) (by cbv) (by cbv) ?_
 cbv
 refine⟨zF om om,?_⟩
 cbv
 refine zB5 8 [(7,80)] (by cbv) (by cbv) ?_
 cbv
 obtain⟨NB,hNB⟩:∃ NB,D.nb++[a]=NB:=⟨_,rfl⟩
 have hNl:NB.length=D.nb.length+1:=by rw[←hNB];simp
 have hNe:enc ci D.nb++yO [[.int .i64 (fun _=>(v:Int)+(r:Int))]]=enc ci NB:=by
  rw[←hNB,←sQ,←hva]
  exact (congrArg (enc ci D.nb++·) (zP8 v r))
 refine zHF zFS rfl ⟨by simp [yO,xG]⟩ rfl (by simp [zM]) (yJ (by simp [yO] <;> omega) (by simp [yO,zM];(try dsimp only [zL] at *);omega)) ?_
 cbv
 obtain⟨P,hP⟩:∃ P,oX v D.nb.length D.bs D.fs=P:=⟨_,rfl⟩
 have hPl:P.length=D.fs.length:=by rw[←hP,oV hlf,hlf]
 refine z9 (σ:=Nat × List (List Rat)) (fun s=>⟨[(1,.ptr 1 0),(4,.int .i64 (fun _=>(w:Int))),(7,.ptr 7 0),(8,.int .i64 (fun _=>(D.nb.length:Int))),(86,.osl 1000001 1 (fun _=>0) (fun _=>D.bs.length)),(87,.int .i64 (fun _=>(D.bs.length:Int))),(88,.int .i64 (fun _=>(s.1:Int)))],
   fK v r ⟨D.bs,NB,s.2,D.ob⟩ p++fE ⟨D.bs,NB,s.2,D.ob⟩++[(1,.box [.ptr 1000000 0]),(7,.box [.int .i64 (fun _=>(a:Int))])]⟩)
  (fun s=>s.1≤D.bs.length∧s.2=P.take s.1++D.fs.drop s.1) (fun s=>D.bs.length - s.1)
  (0,D.fs) ⟨by omega,by simp⟩ (.le okZ (by cbv;repeat' first | exact trivial | exact lR | exact zB rfl | exact⟨rfl⟩ | exact zC om | exact yC rfl (by simp [yO,zM,hNl]) | exact zB hNe | apply And.intro) rfl) ?_
 intro s hs
 obtain⟨i,M⟩:=s
 obtain⟨g1,g2⟩:=hs
 dsimp only at g1 g2
 cbv
 refine zG (fun h=>?_) (fun h=>?_)
 ·have hi:i<D.bs.length:=om
  obtain⟨b,hbi⟩:=zU hi
  obtain⟨l,hl⟩:=zU (show i<D.fs.length by omega)
  have hll:=hw.row i l hl
  have hMl:M.length=D.fs.length:=by rw[g2,List.length_append,List.length_take,List.length_drop];omega
  have hMi:M[i]?=some l:=by rw[g2];exact zCS hPl hl
  obtain⟨c,hc⟩:∃ c:Rat,(if b<v then 0 else 1)=c:=⟨_,rfl⟩
  obtain⟨C,hC⟩:∃ C,zK c=C:=⟨_,rfl⟩
  have hPi:P[i]?=some (ins D.nb.length c l):=by rw[←hP,←hc];exact oW hbi hl
  obtain⟨L,hL⟩:∃ L,ins D.nb.length c l=L:=⟨_,rfl⟩
  rw[hL] at hPi
  have hst:M.set i L=P.take (i+1)++D.fs.drop (i+1):=by rw[g2];exact pU hPl hPi
  have hLl:L.length=l.length+1:=by rw[←hL];exact lL (by omega)
  have hrow:=kG M i
  rw[getD_some hMi] at hrow
  have hLe:(enc cq l).take D.nb.length++([xG (cR C)]++(enc cq l).drop D.nb.length)=enc cq L:=by
   rw[←hL,←hC]
   unfold ins
   rw[←sQ,zEF]
   congr 1
   rw[zEG]
   rfl
  have cfr:=jW v r ⟨D.bs,NB,M,D.ob⟩ p b
  obtain⟨U,hU⟩:∃ U,zK ((1:Int):Rat)=U:=⟨_,rfl⟩
  have c1:=s104 1 (by decide) (by decide)
  rw[hU] at c1
  have hxl:((M.map (enc cq)).getD i []).length=l.length:=by rw[hrow,zM]
  have cin:=zN4 ((M.map (enc cq)).getD i []) D.nb.length (by rw[hxl];omega) (by rw[hxl];omega) (xG (cR C)) rfl 114 114
  have hle:i+1≤D.bs.length:=hi
  have hmu:D.bs.length - (i+1)<D.bs.length - i:=by omega
  cbv
  refine⟨zR om om,?_⟩
  refine fZ hbi om ?_
  cbv
  refine y4 (fun n=>match nqb n 1000002 with | true=>80 | false=>match nqb n 1000004 with | true=>125 | false=>n) (.refl _) rfl okA cfr (by exact⟨⟨rfl,rfl⟩,⟨rfl,rfl⟩,⟨rfl,rfl⟩,⟨rfl,rfl⟩,⟨rfl,rfl⟩,trivial⟩) rfl rfl rfl rfl rfl rfl rfl rfl ?_
  cbv
  refine j9 (σ:=Unit) (fun _=>⟨[(1,.ptr 1 0),(4,.int .i64 (fun _=>(w:Int))),(7,.ptr 7 0),(8,.int .i64 (fun _=>(D.nb.length:Int))),(9,.int .i64 (fun _=>(i:Int))),(11,.ptr 11 0),(86,.osl 1000001 1 (fun _=>0) (fun _=>D.bs.length)),(87,.int .i64 (fun _=>(D.bs.length:Int))),(88,.int .i64 (fun _=>(i:Int)))],
   fK v r ⟨D.bs,NB,M,D.ob⟩ p++fE ⟨D.bs,NB,M,D.ob⟩++[(1,.box [.ptr 1000000 0]),(7,.box [.int .i64 (fun _=>(a:Int))]),(11,.box (cR C))]⟩) (fun _=>True) (fun h1=>?_) (fun h1=>?_) ?_
  ·have hbv:b<v:=by (try dsimp only [zL] at *);omega
   have hC0:C=⟨false,[],[]⟩:=by rw[←hC,←hc,if_pos hbv];unfold zK;simp [zZ]
   subst hC0
   cbv
   exact⟨(),trivial,.le okZ (by cbv;repeat' first | exact trivial | exact lR | exact zB rfl | exact⟨rfl⟩ | exact zC om | exact zQ rfl | exact zO rfl | exact zI rfl | apply And.intro) rfl⟩
  ·have hbv:¬ b<v:=by (try dsimp only [zL] at *);omega
   have hCU:C=U:=by rw[←hC,←hc,if_neg hbv,←hU];rfl
   subst hCU
   cbv
   refine cA c1 ?_
   cbv
   exact⟨(),trivial,.le okZ (by cbv;repeat' first | exact trivial | exact lR | exact zB rfl | exact⟨rfl⟩ | exact zC om | exact zQ rfl | exact zO rfl | exact zI rfl | apply And.intro) rfl⟩
  intro _ _
  cbv
  refine cQ 16 [(15,114)] (.focus 1000003 114 (fun _=>i) rfl rfl (d4 (by show i<(M.map (enc cq)).length;rw[List.length_map];omega))) (by cbv) (by cbv) ?_
  cbv
  refine⟨zR om om,?_⟩
  refine cL om ?_
  cbv
  refine lP id rfl rfl okA cin rfl rfl rfl rfl ?_
  cbv
  refine⟨zR om om,?_⟩
  refine sto0 om ?_
  cbv;refine⟨zF om om,?_⟩;cbv
  obtain⟨M',hM'⟩:∃ M',M.set i L=M':=⟨_,rfl⟩
  have hMl':M'.length=M.length:=by rw[←hM',List.length_set]
  rw[hM'] at hst
  exact⟨(i+1,M'),⟨hle,hst⟩,hmu,.trans (.unfocus 1000003 114 [] [] rfl rfl rfl ⟨rfl,rfl⟩) (.le okZ (by
   cbv
   repeat' first | exact trivial | exact lR | exact zB rfl | exact⟨rfl⟩ | exact yC rfl hMl'.symm | exact⟨by show (M.map (enc cq)).set i (((M.map (enc cq)).getD i []).take D.nb.length++([xG (cR C)]++((M.map (enc cq)).getD i []).drop D.nb.length))=M'.map (enc cq);rw[hrow,hLe,←hM'];exact map_set _ _ _⟩ | apply And.intro) rfl)⟩
 ·have hi:i=D.bs.length:=by (try dsimp only [zL] at *);omega
  have hM:M=P:=by rw[g2,hi,←hlf,List.drop_length,List.append_nil,←hPl,List.take_length]
  subst hM
  clear g2 h
  have hob:=hw.ob
  obtain⟨OB,hOB⟩:∃ OB,ins D.nb.length 0 D.ob=OB:=⟨_,rfl⟩
  have hOl:OB.length=D.ob.length+1:=by rw[←hOB];exact lL (by omega)
  have cin:=zN4 (enc cq D.ob) D.nb.length (by rw[zM];omega) (by rw[zM];omega) (xG [.ff,.nil,.nil]) rfl 125 125
  rw[zM] at cin
  have hOe:(enc cq D.ob).take D.nb.length++([xG [.ff,.nil,.nil]]++(enc cq D.ob).drop D.nb.length)=enc cq OB:=by
   rw[←hOB]
   unfold ins
   rw[←sQ,zEF]
   congr 1
   rw[zEG]
   have h0:xG (cq 0)=xG [.ff,.nil,.nil]:=by
    have:zK 0=⟨false,[],[]⟩:=by unfold zK;simp [zZ]
    unfold cq
    rw[this]
    rfl
   show _=enc cq (0::_)
   unfold enc
   rw[List.map_cons,h0]
   rfl
  rw[hOe,zM] at cin
  have h1n:a ∉ D.bs:=fun q=>by have:=hy _ (.inl q);omega
  have h2n:a ∉ D.nb:=fun q=>by have:=hy _ (.inr q);omega
  have hwa:=Dic.aux_wf (v:=v) hw h1n h2n
  have hD2:D.aux v a=⟨D.bs,NB,M,OB⟩:=by rw[←hNB,←hP,←hOB];rfl
  have hatw:(D.aux v a).at w D.nb.length=1:=by rw[Dic.aux_at hw w1,if_neg (by omega),if_pos rfl,if_neg (by omega)]
  have hne:(D.aux v a).at w D.nb.length≠0:=by rw[hatw];decide
  obtain⟨D2,hD2e⟩:∃ D2,D.aux v a=D2:=⟨_,rfl⟩
  rw[hD2e] at hD2 hwa hne hfA hE
  have u1:D2.bs=D.bs:=by rw[hD2]
  have u2:D2.nb=NB:=by rw[hD2]
  have u3:D2.fs=M:=by rw[hD2]
  have u4:D2.ob=OB:=by rw[hD2]
  have hnzr:∀ F,F.wf→Same F D2→∀ i:Nat,F.bs[i]?=some a→∃ j,j<F.nb.length∧F.at i j≠0:=fun F h1 h2 i h3=>n7 (v:=v) hw h1n h2n h1 (by rw[hD2e];exact h2) h3
  clear hD2 hD2e hatw
  have hp3:Pvs D2 (D2.piv w D.nb.length):=.step .refl (by rw[u1];exact w1) (by rw[u2,hNl];omega) hne
  have hwD3:=hp3.wf hwa
  have hlD3:=hp3.len
  have cpv:=d8 v r D2 p w D.nb.length hwa (by rw[u1];exact w1) (by rw[u2,hNl];omega) hne (by omega) (by rw[u2,hNl];omega) (by rw[u1];omega) (hfA D2 .refl)
  obtain⟨D3,hD3⟩:∃ D3,D2.piv w D.nb.length=D3:=⟨_,rfl⟩
  rw[hD3] at hp3 hwD3 hlD3 cpv hE
  rw[u1,u2,hNl] at hlD3
  cbv
  refine zB5 9 [(8,125)] (by cbv) (by cbv) ?_
  cbv
  refine lP id rfl rfl okA cin rfl rfl rfl rfl ?_
  cbv
  refine y4 (ps':=⟨[(1,.ptr 1 0),(7,.ptr 7 0),(128,.ptr 1000000 0),(129,.int .i64 (fun _=>(w:Int))),(130,.int .i64 (fun _=>(D.nb.length:Int)))],fK v r D2 p++fE D2++[(1,.box [.ptr 1000000 0]),(7,.box [.int .i64 (fun _=>(a:Int))])]⟩) (fun n=>match nqb n 1000002 with | true=>80 | false=>match nqb n 1000004 with | true=>125 | false=>n)
   (.le okZ (by cbv;repeat' first | exact trivial | exact lR | exact zB rfl | exact⟨rfl⟩ | exact yC rfl (by first | (rw[u1];done) | (rw[u2];done) | (rw[u3];done) | (rw[u4];done)) | exact zB (by first | (rw[u1];done) | (rw[u2];done) | (rw[u4];done)) | exact⟨by rw[u3]⟩ | apply And.intro) rfl) rfl okA cpv (by exact⟨⟨rfl,rfl⟩,⟨rfl,rfl⟩,⟨rfl,rfl⟩,⟨rfl,rfl⟩,⟨rfl,rfl⟩,trivial⟩) rfl rfl rfl rfl rfl rfl rfl rfl ?_
  cbv
  obtain⟨u,hu⟩:∃ u:List Rat,u=List.replicate (D3.nb.length+1) 0:=⟨_,rfl⟩
  have hul:u.length=D3.nb.length+1:=by rw[hu];simp
  have ha3:a∈D3.bs∨a∈D3.nb:=((hp3.same hwa).vars _).2 (.inr (by rw[u2,←hNB];simp))
  have cmi:=zMR v r D3 (p+1) a u hu ha3 hwD3 (by omega) (by omega) (by omega) (fun F hF=>hfA F (hp3.trans hF))
  have hmp:=aK (v:=v) (ln:=vio a) (65537 - (p+1)) D3 (p+1)
  unfold zI4 at hE
  obtain⟨⟨G,q,ee,okk⟩,hR⟩:∃ R,vV v (vio a) (65537 - (p+1)) D3 (p+1)=R:=⟨_,rfl⟩
  rw[hR] at cmi hmp hE
  dsimp only at cmi hmp
  obtain⟨hmp,hmq⟩:=hmp
  have hpG:=hp3.trans hmp
  have hwG:=hpG.wf hwa
  have hlG:=hmp.len
  rw[hlD3.1,hlD3.2] at hlG
  have hffG:=hfA G hpG
  have haG:a∈G.bs∨a∈G.nb:=((hmp.same hwD3).vars _).2 ha3
  have hq40:q<2^30:=by have:=hmq (by omega);omega
  have hlu:((D3.nb.length:Int)+1).toNat=u.length:=by rw[hul];omega
  have hzu:List.replicate ((D3.nb.length:Int)+1).toNat (xG [.ff,.nil,.nil])=enc cq u:=by
   rw[hu,show Int.toNat ((D3.nb.length:Int)+1)=D3.nb.length+1 by omega]
   exact gG _
  refine⟨zF om om,yJ om om,wP om om,?_⟩
  refine y4 (ps':=⟨[(1,.ptr 1 0),(7,.ptr 7 0),(13,.fn 90 [.ptr 1 0,.ptr 7 0,.ptr 12 0]),(141,.ptr 1000000 0),(142,.fn 90 [.ptr 1 0,.ptr 7 0,.ptr 12 0])],fK v r D3 (p+1)++fE D3++[(1,.box [.ptr 1000000 0]),(7,.box [.int .i64 (fun _=>(a:Int))]),(12,.box [.osl 138 3 (fun _=>0) (fun _=>u.length)]),(138,.arr 3 (fun _=>enc cq u))]⟩) (fun n=>match nqb n 1000002 with | true=>80 | false=>match nqb n 1000004 with | true=>125 | false=>match nqb n 1000006 with | true=>1 | false=>match nqb n 1000007 with | true=>7 | false=>match nqb n 1000008 with | true=>12 | false=>match nqb n 1000009 with | true=>138 | false=>n)
   (.le okZ (by cbv;repeat' first | exact trivial | exact lR | exact zB rfl | exact⟨rfl⟩ | exact yC rfl hlu | exact zB hzu | apply And.intro) rfl) rfl (by exact⟨lR,tY _,trivial⟩) cmi (by exact⟨⟨rfl,rfl⟩,⟨rfl,rfl⟩,⟨rfl,rfl⟩,⟨rfl,rfl⟩,⟨rfl,rfl⟩,⟨rfl,rfl⟩,⟨rfl,rfl⟩,⟨rfl,rfl⟩,⟨rfl,rfl⟩,trivial⟩) rfl rfl rfl rfl rfl rfl rfl rfl ?_
  cbv
  refine yA (fun h1=>?_) (fun h1=>?_)
  rotate_left
  ·subst h1
   dsimp only at hE
   cases hE
   cbv
   refine p8 (ps':=⟨[(2,.nil),(3,.ff)],fK v r E q'++fE E⟩) id (.le okZ (by cbv;repeat' first | exact trivial | exact lR | exact zB rfl | exact zC om | exact zQ rfl | exact zO (by assumption) | exact zS (by assumption) | exact zI (by assumption) | exact⟨rfl⟩ | apply And.intro) rfl) rfl (by exact⟨⟨rfl,rfl⟩,⟨rfl,rfl⟩,⟨rfl,rfl⟩,⟨rfl,rfl⟩,⟨rfl,rfl⟩,trivial⟩) (by rfl) (by exact⟨⟨rfl,by omega⟩,⟨rfl,by omega⟩,⟨rfl,by omega⟩,trivial⟩) ?_
   cbv
   exact okA
  subst h1
  dsimp only at hE
  cbv
  by_cases hbi:0≤wS G.bs a
  ·obtain⟨i0,hi0⟩:∃ i0:Nat,wS G.bs a=i0:=⟨(wS G.bs a).toNat,by omega⟩
   have hg:=wY hbi
   rw[hi0,Int.toNat_natCast] at hg
   have hgl:=yR hg
   have hlfG:=hwG.len
   obtain⟨l,hl⟩:=zU (l:=G.fs) (i:=i0) (by omega)
   have hvio:vio a G=l:=aT hi0 hl
   have hll:=hwG.row i0 l hl
   rw[hvio,hi0,Int.toNat_natCast,if_pos (show (0:Int)≤(i0:Int) by omega),getD_some hl] at hE
   have cl1:=zGQ v r G q a u l i0 hwG (by omega) hi0 hl
   obtain⟨c,hc⟩:=zU (show G.nb.length<l.length by omega)
   obtain⟨C,hC⟩:∃ C,zK c=C:=⟨_,rfl⟩
   rw[getD_some hc] at hE
   have fl:=hffG.fs l (List.mem_of_getElem? hl)
   have fc:=fl c (List.mem_of_getElem? hc)
   have szC:C.sz (2^30):=by rw[←hC];exact z7 fc
   have qC:C.q=c:=by rw[←hC];exact yN c
   have csc:=s86 C (by have:=szC.n;omega)
   rw[qC] at csc
   have hpos:0<yW c↔0<c:=by unfold yW;split <;> (try split) <;> constructor <;> intro _ <;> first | assumption | omega | (exfalso;omega) | grind
   generalize yW c=sc at *
   have hrows:(G.fs.map (enc cq)).set i0 (enc cq l)=G.fs.map (enc cq):=by rw[map_set,fF hl]
   have hln:l.length=G.nb.length+1:=hll
   refine y4 (fun n=>match nqb n 1000002 with | true=>80 | false=>match nqb n 1000004 with | true=>125 | false=>match nqb n 1000006 with | true=>1 | false=>match nqb n 1000007 with | true=>7 | false=>match nqb n 1000008 with | true=>12 | false=>match nqb n 1000009 with | true=>138 | false=>match nqb n 5 with | true=>31 | false=>n) (.refl _) rfl okA cl1 (by exact⟨⟨rfl,rfl⟩,⟨rfl,rfl⟩,⟨rfl,rfl⟩,⟨rfl,rfl⟩,⟨rfl,rfl⟩,⟨rfl,rfl⟩,⟨rfl,rfl⟩,⟨rfl,rfl⟩,⟨rfl,rfl⟩,trivial⟩) rfl rfl rfl rfl rfl rfl rfl rfl ?_
   cbv
   refine⟨zF om om,zR om om,?_⟩
   refine jL hc om hC ?_
   cbv
   refine cA csc ?_
   cbv
   have hyG:∀ y,y∈G.bs∨y∈G.nb→y<v+r+1:=fun y hyy=>by
    have h3:=((hpG.same hwa).vars y).1 hyy
    rw[u1,u2,←hNB] at h3
    rcases h3 with h3 | h3
    ·have:=hy y (.inl h3);omega
    ·rcases List.mem_append.1 h3 with h3 | h3
     ·have:=hy y (.inr h3);omega
     ·simp only[List.mem_singleton] at h3;omega
   refine zG (fun h1=>?_) (fun h1=>?_)
   ·rw[if_pos (hpos.1 h1)] at hE
    have cdu:=zJR v r G q i0 l hll (by omega) (by omega) (by omega) (fun y hyy=>by have:=hyG y (.inr hyy);omega)
    obtain⟨DU,hDU⟩:∃ DU,t9 v r G.nb l=DU:=⟨_,rfl⟩
    rw[hDU] at cdu hE
    cases hE
    cbv
    refine y4 (fun n=>match nqb n 1000002 with | true=>80 | false=>match nqb n 1000004 with | true=>125 | false=>match nqb n 1000005 with | true=>31 | false=>n) (.refl _) rfl okA cdu (by exact⟨⟨rfl,rfl⟩,⟨rfl,rfl⟩,⟨rfl,rfl⟩,⟨rfl,rfl⟩,⟨rfl,rfl⟩,⟨rfl,rfl⟩,trivial⟩) rfl rfl rfl rfl rfl rfl rfl rfl ?_
    cbv
    refine p8 (ps':=⟨[(2,.sl (fun _=>enc cq DU)),(3,.tt)],fK v r E q'++fE E⟩) id (.trans (.unfocus 1000003 31 [] [] rfl rfl rfl ⟨rfl,by show l.length=(enc cq l).length;rw[zM]⟩) (.le okZ (by cbv;repeat' first | exact trivial | exact lR | exact zB rfl | exact⟨hrows⟩ | apply And.intro) rfl)) rfl (by exact⟨⟨rfl,rfl⟩,⟨rfl,rfl⟩,⟨rfl,rfl⟩,⟨rfl,rfl⟩,⟨rfl,rfl⟩,trivial⟩) (by rfl) (by exact⟨⟨rfl,by omega⟩,⟨rfl,by omega⟩,⟨rfl,by omega⟩,trivial⟩) ?_
    cbv
    exact okA
   ·rw[if_neg (fun w=>h1 (hpos.2 w))] at hE
    have cix:=rV G.bs a (by omega)
    rw[hi0] at cix
    cbv
    refine mA (ps':=⟨[(1,.ptr 1 0),(7,.ptr 7 0)],fK v r G q++fE G++[(1,.box [.ptr 1000000 0]),(7,.box [.int .i64 (fun _=>(a:Int))])]⟩) 6
     (.trans (.unfocus 1000003 31 [] [] rfl rfl rfl ⟨rfl,by show l.length=(enc cq l).length;rw[zM]⟩) (.le okZ (by cbv;repeat' first | exact trivial | exact lR | exact zB rfl | exact⟨hrows⟩ | apply And.intro) rfl)) (by cbv) ?_
    cbv
    refine wQ id okA cix (by exact⟨⟨rfl,rfl⟩,trivial⟩) rfl rfl rfl rfl rfl rfl ?_
    cbv
    refine dQ om ?_
    cbv
    refine mA 13 (.focus 1000003 31 (fun _=>i0) rfl rfl (d4 (by show i0<(G.fs.map (enc cq)).length;rw[List.length_map];omega))) (by cbv) ?_
    cbv
    have hrow':=kG G.fs i0
    rw[getD_some hl] at hrow'
    obtain⟨j0,hj0,hj1⟩:=hnzr G hwG (hpG.same hwa) i0 hg
    have hnz:=m0 (l.take G.nb.length) 0 (by
     unfold Dic.at at hj1
     rw[getD_some hl] at hj1
     refine⟨l.getD j0 0,List.mem_of_getElem? (i:=j0) ?_,hj1⟩
     rw[List.getElem?_take_of_lt hj0]
     exact yP (by omega))
    obtain⟨n1,n2,x,n3,n4⟩:=hnz
    rw[Nat.sub_zero] at n3
    have cif:=zO8 l G.nb.length (by omega) (by omega) (fl.mono (by decide))
    rw[←hrow'] at cif
    obtain⟨jn,hjn⟩:∃ jn:Nat,r7 (l.take G.nb.length) 0=jn:=⟨(r7 (l.take G.nb.length) 0).toNat,by omega⟩
    rw[hjn] at cif hE n3
    rw[Int.toNat_natCast] at hE n3
    have hjl:jn<G.nb.length:=by have:=yR n3;rw[List.length_take] at this;omega
    rw[List.getElem?_take_of_lt hjl] at n3
    have hatj:G.at i0 jn≠0:=by unfold Dic.at;rw[getD_some hl,getD_some n3];exact n4
    have hpF:Pvs D2 (G.piv i0 jn):=.step hpG hgl hjl hatj
    have hwF:=hpF.wf hwa
    have hlF:(G.piv i0 jn).bs.length=G.bs.length∧(G.piv i0 jn).nb.length=G.nb.length:=⟨Dic.piv_bl _ _ _,Dic.piv_nl _ _ _⟩
    have hgF:(G.piv i0 jn).nb[jn]?=some a:=by
     show (G.nb.set jn (G.bs.getD i0 0))[jn]?=_
     rw[List.getElem?_set,if_pos rfl,if_pos hjl,getD_some hg]
    have hidx:wS (G.piv i0 jn).nb a=(jn:Int):=by
     have h3:=wX (List.mem_of_getElem? hgF)
     have h4:=uC hwF.nb (wY h3) hgF
     omega
    have cpv:=d8 v r G q i0 jn hwG hgl hjl hatj (by omega) (by omega) (by omega) hffG
    have hE':((G.piv i0 jn).del (wS (G.piv i0 jn).nb a).toNat,q+1,none,true)=(E,q',ref,ok):=hE
    rw[hidx,Int.toNat_natCast] at hE'
    obtain⟨F,hFe⟩:∃ F,G.piv i0 jn=F:=⟨_,rfl⟩
    rw[hFe] at hpF hwF hlF hgF hidx cpv hE'
    refine⟨zR om om,?_⟩
    refine cL om ?_
    cbv
    refine⟨aY om om (by show (G.nb.length:Int)≤(((G.fs.map (enc cq)).getD i0 []).length:Int);rw[hrow',zM];omega),zGG om,?_⟩
    refine y4 (fun n=>match nqb n 1000001 with | true=>31 | false=>n) (.refl _) rfl (by exact⟨yC (by show 0+Int.toNat 0=0;rfl) (by show Int.toNat (G.nb.length:Int) - Int.toNat 0=G.nb.length;omega),tY _,trivial⟩) cif (by exact⟨⟨rfl,rfl⟩,trivial⟩) rfl rfl rfl rfl rfl rfl rfl rfl ?_
    cbv
    refine y4 (ps':=⟨[(1,.ptr 1 0),(7,.ptr 7 0),(183,.ptr 1000000 0),(184,.int .i64 (fun _=>(i0:Int))),(185,.int .i64 (fun _=>(jn:Int)))],fK v r G q++fE G++[(1,.box [.ptr 1000000 0]),(7,.box [.int .i64 (fun _=>(a:Int))])]⟩) (fun n=>match nqb n 1000002 with | true=>80 | false=>match nqb n 1000004 with | true=>125 | false=>n)
     (.trans (.unfocus 1000003 31 [] [] rfl rfl rfl ⟨rfl,rfl⟩) (.le okZ (by cbv;repeat' first | exact trivial | exact lR | exact zB rfl | exact⟨by show (G.fs.map (enc cq)).set i0 ((G.fs.map (enc cq)).getD i0 [])=G.fs.map (enc cq);rw[hrow'];exact hrows⟩ | apply And.intro) rfl)) rfl okA cpv (by exact⟨⟨rfl,rfl⟩,⟨rfl,rfl⟩,⟨rfl,rfl⟩,⟨rfl,rfl⟩,⟨rfl,rfl⟩,trivial⟩) rfl rfl rfl rfl rfl rfl rfl rfl ?_
    cbv
    obtain⟨q1,hq1⟩:∃ q1,q+1=q1:=⟨_,rfl⟩
    have hq1c:(q:Int)+1=(q1:Int):=by omega
    rw[hq1] at hE'
    have hlF1:F.nb.length=G.nb.length:=hlF.2
    have cix2:=rV F.nb a (by omega)
    rw[hidx] at cix2
    have hjF:jn<F.nb.length:=yR hgF
    have cdn:=zN6 (enc ci F.nb) jn (by rw[zM];exact hjF) (by rw[zM];omega) 80 80
    rw[gX,zM,zM] at cdn
    have hobF:=hwF.ob
    have hfsF:=hwF.len
    have cdo:=zI2 (enc cq F.ob) jn (by rw[zM];omega) (by rw[zM];omega) 125 125
    rw[gX,zM,zM] at cdo
    obtain⟨NF,hNF⟩:∃ NF,F.nb.eraseIdx jn=NF:=⟨_,rfl⟩
    obtain⟨OF,hOF⟩:∃ OF,F.ob.eraseIdx jn=OF:=⟨_,rfl⟩
    obtain⟨PF,hPF⟩:∃ PF,F.fs.map (·.eraseIdx jn)=PF:=⟨_,rfl⟩
    have hPFl:PF.length=F.fs.length:=by rw[←hPF,List.length_map]
    have hEF:F.del jn=⟨F.bs,NF,PF,OF⟩:=by rw[←hNF,←hOF,←hPF];rfl
    rw[hNF] at cdn
    rw[hOF] at cdo
    rw[hEF] at hE'
    cbv
    refine zY 6 (by cbv) ?_
    cbv
    refine wQ (fun n=>match nqb n 1000001 with | true=>80 | false=>n) okA cix2 (by exact⟨⟨rfl,rfl⟩,trivial⟩) rfl rfl rfl rfl rfl rfl ?_
    cbv
    refine mB (σ:=Unit) (fun _=>⟨[(1,.ptr 1 0),(8,.int .i64 (fun _=>(jn:Int)))],fK v r ⟨F.bs,NF,F.fs,F.ob⟩ q1++fE ⟨F.bs,NF,F.fs,F.ob⟩++[(1,.box [.ptr 1000000 0])]⟩) (fun _=>True) (.refl _) (by cbv) ?_ ?_
    ·cbv
     repeat' first
      | exact trivial
      | exact zF om om
      | (refine y4 id (.refl _) rfl (by exact⟨lR,lR,zC om,trivial⟩) cdn (by exact⟨⟨rfl,rfl⟩,trivial⟩) rfl rfl rfl rfl rfl rfl rfl rfl ?_;cbv)
      | exact⟨(),trivial,.le okZ (by cbv;repeat' first | exact trivial | exact lR | exact zB rfl | exact zC om | exact zQ rfl | exact zO (by assumption) | exact zS (by assumption) | exact zI (by assumption) | exact⟨rfl⟩ | apply And.intro) rfl⟩
      | apply And.intro
    intro _ _
    cbv
    refine z9 (σ:=Nat × List (List Rat)) (fun s=>⟨[(1,.ptr 1 0),(8,.int .i64 (fun _=>(jn:Int))),(208,.int .i64 (fun _=>(F.fs.length:Int))),(209,.int .i64 (fun _=>(s.1:Int)))],fK v r ⟨F.bs,NF,s.2,F.ob⟩ q1++fE ⟨F.bs,NF,s.2,F.ob⟩++[(1,.box [.ptr 1000000 0])]⟩)
     (fun s=>s.1≤F.fs.length∧s.2=PF.take s.1++F.fs.drop s.1) (fun s=>F.fs.length - s.1)
     (0,F.fs) ⟨by omega,by simp⟩ (.le okZ (by cbv;repeat' first | exact trivial | exact lR | exact zB rfl | exact zC om | exact zQ rfl | exact zO (by assumption) | exact zS (by assumption) | exact zI (by assumption) | exact⟨rfl⟩ | apply And.intro) rfl) ?_
    intro s hs
    obtain⟨i,M⟩:=s
    obtain⟨g1,g2⟩:=hs
    dsimp only at g1 g2
    have hMl:M.length=F.fs.length:=by rw[g2,List.length_append,List.length_take,List.length_drop];omega
    cbv
    refine zG (fun h=>?_) (fun h=>?_)
    ·have hi:i<F.fs.length:=om
     obtain⟨l,hl⟩:=zU hi
     have hll:=hwF.row i l hl
     have hMi:M[i]?=some l:=by rw[g2];exact zCS hPFl hl
     obtain⟨L,hL⟩:∃ L,l.eraseIdx jn=L:=⟨_,rfl⟩
     have hPi:PF[i]?=some L:=by rw[←hPF,List.getElem?_map,hl,←hL];rfl
     have hst:M.set i L=PF.take (i+1)++F.fs.drop (i+1):=by rw[g2];exact pU hPFl hPi
     have hrow:=kG M i
     rw[getD_some hMi] at hrow
     have hxl:((M.map (enc cq)).getD i []).length=l.length:=by rw[hrow,zM]
     have cdr:=zI2 ((M.map (enc cq)).getD i []) jn (by rw[hxl];omega) (by rw[hxl];omega) 227 227
     have hLe:((M.map (enc cq)).getD i []).eraseIdx jn=enc cq L:=by rw[hrow,gX,hL]
     have hle:i+1≤F.fs.length:=hi
     have hmu:F.fs.length - (i+1)<F.fs.length - i:=by omega
     cbv
     refine cQ 16 [(15,227)] (.focus 1000003 227 (fun _=>i) rfl rfl (d4 (by show i<(M.map (enc cq)).length;rw[List.length_map];omega))) (by cbv) (by cbv) ?_
     cbv
     refine⟨zR om om,?_⟩
     refine cL om ?_
     cbv
     refine⟨zF om om,?_⟩
     cbv
     refine lP id rfl rfl (by exact⟨lR,lR,zC om,trivial⟩) cdr rfl rfl rfl rfl ?_
     cbv
     refine⟨zR om om,?_⟩
     refine sto0 om ?_
     cbv;refine⟨zF om om,?_⟩;cbv
     obtain⟨M',hM'⟩:∃ M',M.set i L=M':=⟨_,rfl⟩
     have hMl':M'.length=M.length:=by rw[←hM',List.length_set]
     rw[hM'] at hst
     exact⟨(i+1,M'),⟨hle,hst⟩,hmu,.trans (.unfocus 1000003 227 [] [] rfl rfl rfl ⟨rfl,rfl⟩) (.le okZ (by
      cbv
      repeat' first | exact trivial | exact lR | exact zB rfl | exact⟨rfl⟩ | exact yC rfl hMl'.symm | exact⟨by show (M.map (enc cq)).set i (((M.map (enc cq)).getD i []).eraseIdx jn)=M'.map (enc cq);rw[hLe,←hM'];exact map_set _ _ _⟩ | apply And.intro) rfl)⟩
    ·have hi:i=F.fs.length:=by (try dsimp only [zL] at *);omega
     have hM:M=PF:=by rw[g2,hi,List.drop_length,List.append_nil,←hPFl,List.take_length]
     subst hM
     clear g2 h
     have e1:(⟨F.bs,NF,M,OF⟩:Dic)=E∧q1=q'∧none=ref∧true=ok:=by cases hE';exact⟨rfl,rfl,rfl,rfl⟩
     obtain⟨e1,e2,e3,e4⟩:=e1
     subst e1 e2 e3 e4
     cbv
     refine mB (σ:=Unit) (fun _=>⟨[],fK v r ⟨F.bs,NF,M,OF⟩ q1++fE ⟨F.bs,NF,M,OF⟩⟩) (fun _=>True) (.refl _) (by cbv) ?_ ?_
     ·cbv
      repeat' first
       | exact trivial
       | exact zF om om
       | (refine y4 id (.refl _) rfl (by exact⟨lR,lR,zC om,trivial⟩) cdo (by exact⟨⟨rfl,rfl⟩,trivial⟩) rfl rfl rfl rfl rfl rfl rfl rfl ?_;cbv)
       | exact⟨(),trivial,.le okZ (by cbv;repeat' first | exact trivial | exact lR | exact zB rfl | exact zC om | exact zQ rfl | exact zO (by assumption) | exact zS (by assumption) | exact zI (by assumption) | exact⟨rfl⟩ | apply And.intro) rfl⟩
       | apply And.intro
     intro _ _
     cbv
     refine p8 (ps':=⟨[(2,.nil),(3,.tt)],fK v r ⟨F.bs,NF,M,OF⟩ q1++fE ⟨F.bs,NF,M,OF⟩⟩) id (.le okZ (by cbv;repeat' first | exact trivial | exact lR | exact zB rfl | exact zC om | exact zQ rfl | exact zO (by assumption) | exact zS (by assumption) | exact zI (by assumption) | exact⟨rfl⟩ | apply And.intro) rfl) rfl (by exact⟨⟨rfl,rfl⟩,⟨rfl,rfl⟩,⟨rfl,rfl⟩,⟨rfl,rfl⟩,⟨rfl,rfl⟩,trivial⟩) (by rfl) (by exact⟨⟨rfl,by omega⟩,⟨rfl,by omega⟩,⟨rfl,by omega⟩,trivial⟩) ?_
     cbv
     exact okA
  ·have hab:a ∉ G.bs:=fun q0=>hbi (wX q0)
   have haN:a∈G.nb:=haG.resolve_left hab
   have hge:=wX haN
   obtain⟨jn,hjn⟩:∃ jn:Nat,wS G.nb a=jn:=⟨(wS G.nb a).toNat,by omega⟩
   have hgG:=wY hge
   rw[hjn,Int.toNat_natCast] at hgG
   have hjl:=yR hgG
   rw[zKP hab haN,if_neg (show ¬ ((0:Rat)<0) by decide),if_neg hbi,hjn,Int.toNat_natCast] at hE
   have hibn:wS G.bs a<0:=by omega
   have cvn:=zGP v r G q a u jn (by omega) (by omega) (by omega) hibn hjn (by omega)
   obtain⟨us,hus⟩:∃ us,u.set jn 1=us:=⟨_,rfl⟩
   have husl:us.length=u.length:=by rw[←hus,List.length_set]
   have hx:us[G.nb.length]?=some 0:=by rw[←hus,List.getElem?_set_ne (by omega),hu,List.getElem?_replicate,if_pos (by omega)]
   rw[hus] at cvn
   obtain⟨Z,hZ⟩:∃ Z,zK 0=Z:=⟨_,rfl⟩
   have szZ:Z.sz (2^30):=by rw[←hZ];exact z7 (xQ (by decide))
   have csc:=s86 Z (by have:=szZ.n;omega)
   have qZ:Z.q=0:=by rw[←hZ];exact yN 0
   rw[qZ,show yW 0=0 by rfl] at csc
   have cix:=rV G.bs a (by omega)
   obtain⟨ib,hib⟩:∃ ib,wS G.bs a=ib:=⟨_,rfl⟩
   rw[hib] at cix hibn
   refine y4 (fun n=>match nqb n 1000002 with | true=>80 | false=>match nqb n 1000004 with | true=>125 | false=>match nqb n 1000006 with | true=>1 | false=>match nqb n 1000007 with | true=>7 | false=>match nqb n 1000008 with | true=>12 | false=>match nqb n 1000009 with | true=>138 | false=>match nqb n 5 with | true=>31 | false=>n) (.refl _) rfl okA cvn (by exact⟨⟨rfl,rfl⟩,⟨rfl,rfl⟩,⟨rfl,rfl⟩,⟨rfl,rfl⟩,⟨rfl,rfl⟩,⟨rfl,rfl⟩,⟨rfl,rfl⟩,⟨rfl,rfl⟩,⟨rfl,rfl⟩,trivial⟩) rfl rfl rfl rfl rfl rfl rfl rfl ?_
   cbv
   refine⟨zF om om,zR om om,?_⟩
   refine jL hx om hZ ?_
   cbv
   refine cA csc ?_
   cbv
   refine gD om ?_
   cbv
   refine zY 6 (by cbv) ?_
   cbv
   refine wQ (fun n=>match nqb n 1000002 with | true=>80 | false=>match nqb n 1000004 with | true=>125 | false=>n) okA cix (by exact⟨⟨rfl,rfl⟩,trivial⟩) rfl rfl rfl rfl rfl rfl ?_
   cbv
   refine gD om ?_
   have hidx:wS G.nb a=(jn:Int):=hjn
   have hE':(G.del jn,q,none,true)=(E,q',ref,ok):=hE
   obtain⟨F,hFe⟩:∃ F,F=G:=⟨_,rfl⟩
   obtain⟨q1,hq1⟩:∃ q1,q1=q:=⟨_,rfl⟩
   subst hFe hq1
   have hwF:=hwG
   have hgF:=hgG
   have hlF1:F.nb.length=D.nb.length+1:=hlG.2
   have cix2:=rV F.nb a (by omega)
   rw[hidx] at cix2
   have hjF:jn<F.nb.length:=yR hgF
   have cdn:=zN6 (enc ci F.nb) jn (by rw[zM];exact hjF) (by rw[zM];omega) 80 80
   rw[gX,zM,zM] at cdn
   have hobF:=hwF.ob
   have hfsF:=hwF.len
   have cdo:=zI2 (enc cq F.ob) jn (by rw[zM];omega) (by rw[zM];omega) 125 125
   rw[gX,zM,zM] at cdo
   obtain⟨NF,hNF⟩:∃ NF,F.nb.eraseIdx jn=NF:=⟨_,rfl⟩
   obtain⟨OF,hOF⟩:∃ OF,F.ob.eraseIdx jn=OF:=⟨_,rfl⟩
   obtain⟨PF,hPF⟩:∃ PF,F.fs.map (·.eraseIdx jn)=PF:=⟨_,rfl⟩
   have hPFl:PF.length=F.fs.length:=by rw[←hPF,List.length_map]
   have hEF:F.del jn=⟨F.bs,NF,PF,OF⟩:=by rw[←hNF,←hOF,←hPF];rfl
   rw[hNF] at cdn
   rw[hOF] at cdo
   rw[hEF] at hE'
   cbv
   refine zY 6 (by cbv) ?_
   cbv
   refine wQ (fun n=>match nqb n 1000001 with | true=>80 | false=>n) okA cix2 (by exact⟨⟨rfl,rfl⟩,trivial⟩) rfl rfl rfl rfl rfl rfl ?_
   cbv
   refine mB (σ:=Unit) (fun _=>⟨[(1,.ptr 1 0),(8,.int .i64 (fun _=>(jn:Int)))],fK v r ⟨F.bs,NF,F.fs,F.ob⟩ q1++fE ⟨F.bs,NF,F.fs,F.ob⟩++[(1,.box [.ptr 1000000 0])]⟩) (fun _=>True) (.refl _) (by cbv) ?_ ?_
   ·cbv
    repeat' first
     | exact trivial
     | exact zF om om
     | (refine y4 id (.refl _) rfl (by exact⟨lR,lR,zC om,trivial⟩) cdn (by exact⟨⟨rfl,rfl⟩,trivial⟩) rfl rfl rfl rfl rfl rfl rfl rfl ?_;cbv)
     | exact⟨(),trivial,.le okZ (by cbv;repeat' first | exact trivial | exact lR | exact zB rfl | exact zC om | exact zQ rfl | exact zO (by assumption) | exact zS (by assumption) | exact zI (by assumption) | exact⟨rfl⟩ | apply And.intro) rfl⟩
     | apply And.intro
   intro _ _
   cbv
   refine z9 (σ:=Nat × List (List Rat)) (fun s=>⟨[(1,.ptr 1 0),(8,.int .i64 (fun _=>(jn:Int))),(208,.int .i64 (fun _=>(F.fs.length:Int))),(209,.int .i64 (fun _=>(s.1:Int)))],fK v r ⟨F.bs,NF,s.2,F.ob⟩ q1++fE ⟨F.bs,NF,s.2,F.ob⟩++[(1,.box [.ptr 1000000 0])]⟩)
    (fun s=>s.1≤F.fs.length∧s.2=PF.take s.1++F.fs.drop s.1) (fun s=>F.fs.length - s.1)
    (0,F.fs) ⟨by omega,by simp⟩ (.le okZ (by cbv;repeat' first | exact trivial | exact lR | exact zB rfl | exact zC om | exact zQ rfl | exact zO (by assumption) | exact zS (by assumption) | exact zI (by assumption) | exact⟨rfl⟩ | apply And.intro) rfl) ?_
   intro s hs
   obtain⟨i,M⟩:=s
   obtain⟨g1,g2⟩:=hs
   dsimp only at g1 g2
   have hMl:M.length=F.fs.length:=by rw[g2,List.length_append,List.length_take,List.length_drop];omega
   cbv
   refine zG (fun h=>?_) (fun h=>?_)
   ·have hi:i<F.fs.length:=om
    obtain⟨l,hl⟩:=zU hi
    have hll:=hwF.row i l hl
    have hMi:M[i]?=some l:=by rw[g2];exact zCS hPFl hl
    obtain⟨L,hL⟩:∃ L,l.eraseIdx jn=L:=⟨_,rfl⟩
    have hPi:PF[i]?=some L:=by rw[←hPF,List.getElem?_map,hl,←hL];rfl
    have hst:M.set i L=PF.take (i+1)++F.fs.drop (i+1):=by rw[g2];exact pU hPFl hPi
    have hrow:=kG M i
    rw[getD_some hMi] at hrow
    have hxl:((M.map (enc cq)).getD i []).length=l.length:=by rw[hrow,zM]
    have cdr:=zI2 ((M.map (enc cq)).getD i []) jn (by rw[hxl];omega) (by rw[hxl];omega) 227 227
    have hLe:((M.map (enc cq)).getD i []).eraseIdx jn=enc cq L:=by rw[hrow,gX,hL]
    have hle:i+1≤F.fs.length:=hi
    have hmu:F.fs.length - (i+1)<F.fs.length - i:=by omega
    cbv
    refine cQ 16 [(15,227)] (.focus 1000003 227 (fun _=>i) rfl rfl (d4 (by show i<(M.map (enc cq)).length;rw[List.length_map];omega))) (by cbv) (by cbv) ?_
    cbv
    refine⟨zR om om,?_⟩
    refine cL om ?_
    cbv
    refine⟨zF om om,?_⟩
    cbv
    refine lP id rfl rfl (by exact⟨lR,lR,zC om,trivial⟩) cdr rfl rfl rfl rfl ?_
    cbv
    refine⟨zR om om,?_⟩
    refine sto0 om ?_
    cbv;refine⟨zF om om,?_⟩;cbv
    obtain⟨M',hM'⟩:∃ M',M.set i L=M':=⟨_,rfl⟩
    have hMl':M'.length=M.length:=by rw[←hM',List.length_set]
    rw[hM'] at hst
    exact⟨(i+1,M'),⟨hle,hst⟩,hmu,.trans (.unfocus 1000003 227 [] [] rfl rfl rfl ⟨rfl,rfl⟩) (.le okZ (by
     cbv
     repeat' first | exact trivial | exact lR | exact zB rfl | exact⟨rfl⟩ | exact yC rfl hMl'.symm | exact⟨by show (M.map (enc cq)).set i (((M.map (enc cq)).getD i []).eraseIdx jn)=M'.map (enc cq);rw[hLe,←hM'];exact map_set _ _ _⟩ | apply And.intro) rfl)⟩
   ·have hi:i=F.fs.length:=by (try dsimp only [zL] at *);omega
    have hM:M=PF:=by rw[g2,hi,List.drop_length,List.append_nil,←hPFl,List.take_length]
    subst hM
    clear g2 h
    have e1:(⟨F.bs,NF,M,OF⟩:Dic)=E∧q1=q'∧none=ref∧true=ok:=by cases hE';exact⟨rfl,rfl,rfl,rfl⟩
    obtain⟨e1,e2,e3,e4⟩:=e1
    subst e1 e2 e3 e4
    cbv
    refine mB (σ:=Unit) (fun _=>⟨[],fK v r ⟨F.bs,NF,M,OF⟩ q1++fE ⟨F.bs,NF,M,OF⟩⟩) (fun _=>True) (.refl _) (by cbv) ?_ ?_
    ·cbv
     repeat' first
      | exact trivial
      | exact zF om om
      | (refine y4 id (.refl _) rfl (by exact⟨lR,lR,zC om,trivial⟩) cdo (by exact⟨⟨rfl,rfl⟩,trivial⟩) rfl rfl rfl rfl rfl rfl rfl rfl ?_;cbv)
      | exact⟨(),trivial,.le okZ (by cbv;repeat' first | exact trivial | exact lR | exact zB rfl | exact zC om | exact zQ rfl | exact zO (by assumption) | exact zS (by assumption) | exact zI (by assumption) | exact⟨rfl⟩ | apply And.intro) rfl⟩
      | apply And.intro
    intro _ _
    cbv
    refine p8 (ps':=⟨[(2,.nil),(3,.tt)],fK v r ⟨F.bs,NF,M,OF⟩ q1++fE ⟨F.bs,NF,M,OF⟩⟩) id (.le okZ (by cbv;repeat' first | exact trivial | exact lR | exact zB rfl | exact zC om | exact zQ rfl | exact zO (by assumption) | exact zS (by assumption) | exact zI (by assumption) | exact⟨rfl⟩ | apply And.intro) rfl) rfl (by exact⟨⟨rfl,rfl⟩,⟨rfl,rfl⟩,⟨rfl,rfl⟩,⟨rfl,rfl⟩,⟨rfl,rfl⟩,trivial⟩) (by rfl) (by exact⟨⟨rfl,by omega⟩,⟨rfl,by omega⟩,⟨rfl,by omega⟩,trivial⟩) ?_
    cbv
    exact okA
end Go.Proofs.YtfainocfaddbdaaGreat
