/- A part of the proof: SyM, SyN. -/
import Derived.Test.YtfainocfaddbdaaGreatU32
import Derived.Test.YtfainocfaddbdaaGreatU31
import Derived.Test.YtfainocfaddbdaaGreatU28
set_option linter.all false
namespace Go.Proofs.YtfainocfaddbdaaGreat
open Go
set_option maxRecDepth 100000
set_option maxHeartbeats 4000000
def fK (v r:Nat) (D:Dic) (p:Nat):List (Nat×Obj') :=
 [(1000000,.box [.int .i64 (fun _=>(v:Int)),.int .i64 (fun _=>(r:Int)),.osl 1000001 1 (fun _=>0) (fun _=>D.bs.length),.osl 80 1 (fun _=>0) (fun _=>D.nb.length),.osl 1000003 1 (fun _=>0) (fun _=>D.fs.length),.osl 125 3 (fun _=>0) (fun _=>D.ob.length),.int .i64 (fun _=>(p:Int))]),(1000001,.arr 1 (fun _=>enc ci D.bs)),(1000003,.mat 3 (fun _=>D.fs.map (enc cq)) [])]
def fE (D:Dic):List (Nat×Obj'):=[(80,.arr 1 (fun _=>enc ci D.nb)),(125,.arr 3 (fun _=>enc cq D.ob))]
theorem zZH (v r:Nat):yI [[.int .i64 (fun _=>(v:Int)+(r:Int))]]=enc ci [v+r]:=by show [[D.int .i64 ((v:Int)+(r:Int))]]=[[D.int .i64 ((v+r:Nat):Int)]];rw[Int.natCast_add]
def refV:Option (List Rat)->PV
 |none=>.nil| some l=>.sl (fun _=>enc cq l)
theorem bQ {α:Type}(f:α->List PV)(l:List α)(i:Nat):(enc f l).eraseIdx i=enc f (l.eraseIdx i):=by
 unfold enc;induction l generalizing i with
 |nil=>rfl| cons a r ih =>
  cases i with
  |zero=>rfl| succ i=>simp only[uC,List.eraseIdx_cons_succ,ih]
theorem zVA (v r:Nat)(D:Dic)(p:Nat)(hw:D.wf)(hn:D.nb.length<2^28)(hb:D.bs.length<2^28)(hp:p<2^15)(hv:v<2^28)(hr:r<2^28)(hy:∀ y,y∈D.bs\/y∈D.nb->y<v+r)(hf:D.fit (2^30))(hfA:¬wrs v D<0->∀ E,Pvs (D.aux v (v+r)) E->E.fit (2^30)):Sound 49 [.ptr 1000000 0] (fK v r D p) (fE D) (.tup [refV (qT v r D p).2.2.1,.bool (fun _=>(qT v r D p).2.2.2)]) (fK v r (qT v r D p).1 (qT v r D p).2.1) (fE (qT v r D p).1):=by
 refine sF Tryz.f49 ?_;have hlf:=hw.len;obtain⟨⟨E,q',ref,ok⟩,hE⟩:∃ E,qT v r D p=E:=⟨_,rfl⟩;rw[hE];dsimp only;unfold qT at hE;have hws:=zC9 v D;obtain⟨W,hW⟩:∃ W,wrs v D=W:=⟨_,rfl⟩;rw[hW] at hE hws hfA;have hWg:W=wrGo v D D.bs 0 (-1):=hW.symm;cbv;refine zX (σ:=Nat×Int) (fun s=>⟨[(1,.ptr 1 0),(4,.int .i64 (fun _=>s.2)),(23,.osl 1000001 1 (fun _=>0) (fun _=>D.bs.length)),(24,.int .i64 (fun _=>(D.bs.length:Int))),(25,.int .i64 (fun _=>(s.1:Int)))],fK v r D p++fE D++[(1,.box [.ptr 1000000 0])]⟩)
  (fun s=>s.1<=D.bs.length/\(s.2=-1\/∃ k:Nat,s.2=k/\k<s.1)/\W=wrGo v D (D.bs.drop s.1) s.1 s.2) (fun s=>D.bs.length-s.1)
  (0,-1) ⟨by omega,.inl rfl,hWg⟩ (wkW) ?_
 intro s hs;obtain⟨i,b⟩:=s;obtain⟨g1,g2,g3⟩:=hs;dsimp only at g1 g2 g3;cbv;refine zD (fun h=>?_) (fun h=>?_)
 ·(have hi:i<D.bs.length:=om;obtain⟨y,hyi⟩:=zO hi;rw[wK hyi,wrGo] at g3;obtain⟨c,hc⟩:∃ c,D.cst i=c:=⟨_,rfl⟩;rw[hc] at g3;have fc:Fits (2^30) c:=by rw[<-hc];exact zE4 hf (by decide) i D.nb.length);obtain⟨C,hC⟩:∃ C,zJ c=C:=⟨_,rfl⟩
  (have szC:C.sz (2^30):=by rw[<-hC];exact yF fc);have qC:C.q=c:=by rw[<-hC];exact yY c
  (have csc:=s86 C (by have:=szC.n;omega);rw[qC] at csc;have hneg:xF c<0↔c<0:=by unfold xF;split <;> (try split) <;> constructor <;> intro _ <;> first|assumption|omega|(exfalso;omega)|grind);have cfr:=d9 v r D p y
  (have cco:=zDM v r D p i hw oM oM;rw[hc,hC] at cco;have hle:i+1<=D.bs.length:=hi;have hmu:D.bs.length-(i+1)<D.bs.length-i:=by omega);have keepg:b=-1\/∃ k:Nat,b=k/\k<i+1:=by rcases g2 with g2|⟨k,g2,g2'⟩;{exact .inl g2};{exact .inr ⟨k,g2,zFB g2'⟩}
  have newg:((i:Nat):Int)=-1\/∃ k:Nat,((i:Nat):Int)=k/\k<i+1:=.inr ⟨i,rfl,zBU i⟩;generalize xF c=sc at *
  cbv;refine⟨zQ om om,?_⟩;refine aN hyi om ?_;cbv;refine zT 25 (by cbv) ?_;cbv;refine uE hnM2 okA cfr okR rfl rfl rfl rfl rfl rfl ?_;cbv;refine yD (fun h1=>?_) (fun h1=>?_);{cbv;refine⟨zC om om,?_⟩;cbv;exact⟨(i+1,b),⟨hle,keepg,g3.trans (by rw[if_neg (fun w=>by have:=w.1;(try dsimp only [zI] at *);omega)])⟩,hmu,wkW⟩};cbv;refine uE hnM2 okA cco okR rfl rfl rfl rfl rfl rfl ?_;cbv;refine dA csc ?_;cbv;refine yD (fun h2=>?_) (fun h2=>?_)
  rotate_left
  {cbv;refine⟨zC om om,?_⟩;cbv;exact⟨(i+1,b),⟨hle,keepg,g3.trans (by rw[if_neg (fun w=>h2 (hneg.2 w.2.1))])⟩,hmu,wkW⟩}
  (have hc0:c<0:=hneg.1 h2;have hyv:v<=y:=by (try dsimp only [zI] at *);omega);cbv
  refine yD (fun h3=>?_) (fun h3=>?_);{have h3':b<0:=h3;cbv;refine⟨zC om om,?_⟩;cbv;exact⟨(i+1,(i:Int)),⟨hle,newg,g3.trans (by rw[if_pos ⟨hyv,hc0,.inl h3'⟩])⟩,hmu,wkW⟩};have h3':¬b<0:=h3;obtain⟨k,hk,hki⟩:∃ k:Nat,b=k/\k<i:=by rcases g2 with g2|⟨k,g2,g2'⟩;{omega};{exact⟨k,g2,g2'⟩}
  (subst hk;rw[xN] at g3;obtain⟨d,hd⟩:∃ d,D.cst k=d:=⟨_,rfl⟩;rw[hd] at g3;have fd:Fits (2^30) d:=by rw[<-hd];exact zE4 hf (by decide) k D.nb.length);obtain⟨Dd,hDd⟩:∃ C,zJ d=C:=⟨_,rfl⟩
  (have szD:Dd.sz (2^30):=by rw[<-hDd];exact yF fd);have qD:Dd.q=d:=by rw[<-hDd];exact yY d
  (have cck:=zDM v r D p k hw oM oM;rw[hd,hDd] at cck;have ccm:=s165 C Dd (szC.mono (by decide)) (szD.mono (by decide));rw[qC,qD] at ccm;have hcm:gJ c d<0↔c<d:=by unfold gJ;split <;> (try split) <;> constructor <;> intro _ <;> first|assumption|omega|(exfalso;omega)|grind);generalize gJ c d=cm at *
  cbv;refine uE hnM2 okA cco okR rfl rfl rfl rfl rfl rfl ?_;cbv;refine uE hnM2 okA cck okR rfl rfl rfl rfl rfl rfl ?_;cbv;refine dA ccm ?_;cbv;refine zD (fun h4=>?_) (fun h4=>?_);{cbv;refine⟨zC om om,?_⟩;cbv;exact⟨(i+1,(i:Int)),⟨hle,newg,g3.trans (by rw[if_pos ⟨hyv,hc0,.inr (hcm.1 h4)⟩])⟩,hmu,wkW⟩}
  ·(have hq:¬(v<=y/\c<0/\(((k:Nat):Int)<0\/c<d)):=fun w=>by rcases w.2.2 with w|w;{omega};{exact h4 (hcm.2 w)});cbv;refine⟨zC om om,?_⟩;cbv;exact⟨(i+1,(k:Int)),⟨hle,keepg,g3.trans (by rw[if_neg hq])⟩,hmu,wkW⟩
 have hi:i=D.bs.length:=by (try dsimp only [zI] at *);omega
 have hbW:b=W:=by rw[g3,hi,vG];rfl
 subst hbW;clear g3 g2 hWg;cbv;refine zD (fun h1=>?_) (fun h1=>?_);{have h1':b<0:=h1;rw[if_pos h1'] at hE;cases hE;cbv;refine j6 (ps':=⟨[(2,.nil),(3,.tt)],fK v r D p++fE D⟩) id (wkW) rfl okR (by rfl) okR ?_;cbv;exact okA};have h1':¬b<0:=h1;rw[if_neg h1'] at hE;replace hfA:=hfA h1';obtain⟨w,hw0⟩:∃ w:Nat,b=w:=⟨b.toNat,by omega⟩;subst hw0;obtain⟨w1,w2,w3,w4⟩:=hws.2 oM;rw[xN] at w1 w2 w3 hE;clear w4 hws h1 h1' g1 hi hW;obtain⟨a,hva⟩:∃ a,v+r=a:=⟨_,rfl⟩;rw[hva] at hE hfA hy;cbv;refine zOU 16 [(15,7)] (by cbv) (by cbv) (by cbv) ?_;cbv;refine⟨zC om om,?_⟩;cbv;refine nP 8 [(7,80)] (by cbv) (by cbv) ?_;cbv;obtain⟨NB,hNB⟩:∃ NB,D.nb++[a]=NB:=⟨_,rfl⟩;have hNl:NB.length=D.nb.length+1:=by rw[<-hNB];simp
 have hNe:enc ci D.nb++yI [[.int .i64 (fun _=>(v:Int)+(r:Int))]]=enc ci NB:=by rw[<-hNB,<-cD,<-hva];exact (congrArg (enc ci D.nb++·) (zZH v r))
 refine oD zK2 rfl ⟨by simp[yI,x6]⟩ rfl (by simp[zK]) (yB (by simp[yI] <;> omega) (by simp[yI,zK];(try dsimp only [zI] at *);omega)) ?_;cbv;obtain⟨P,hP⟩:∃ P,auxF v D.nb.length D.bs D.fs=P:=⟨_,rfl⟩;have hPl:P.length=D.fs.length:=by rw[<-hP,zED hlf,hlf]
 refine zX (σ:=Nat×List (List Rat)) (fun s=>⟨[(1,.ptr 1 0),(4,.int .i64 (fun _=>(w:Int))),(7,.ptr 7 0),(8,.int .i64 (fun _=>(D.nb.length:Int))),(86,.osl 1000001 1 (fun _=>0) (fun _=>D.bs.length)),(87,.int .i64 (fun _=>(D.bs.length:Int))),(88,.int .i64 (fun _=>(s.1:Int)))],
   fK v r ⟨D.bs,NB,s.2,D.ob⟩ p++fE ⟨D.bs,NB,s.2,D.ob⟩++[(1,.box [.ptr 1000000 0]),(7,.box [.int .i64 (fun _=>(a:Int))])]⟩)
  (fun s=>s.1<=D.bs.length/\s.2=P.take s.1++D.fs.drop s.1) (fun s=>D.bs.length-s.1)
  (0,D.fs) ⟨by omega,by simp⟩ (.le okZ (by cbv;repeat' first|exact trivial|exact lR|exact zB rfl|exact⟨rfl⟩|exact zE om|exact zU rfl (by simp[yI,zK,hNl])|exact zB hNe|apply zN) rfl) ?_
 intro s hs;obtain⟨i,M⟩:=s;obtain⟨g1,g2⟩:=hs;dsimp only at g1 g2;cbv;refine zD (fun h=>?_) (fun h=>?_)
 ·(have hi:i<D.bs.length:=om;obtain⟨b,hbi⟩:=zO hi;obtain⟨l,hl⟩:=zO (show i<D.fs.length by omega);have hll:=hw.row i l hl;have hMl:M.length=D.fs.length:=by rw[g2,wP,y4,kS];omega);have hMi:M[i]?=some l:=by rw[g2];exact zIH hPl hl
  (obtain⟨c,hc⟩:∃ c:Rat,(if b<v then 0 else 1)=c:=⟨_,rfl⟩;obtain⟨C,hC⟩:∃ C,zJ c=C:=⟨_,rfl⟩;have hPi:P[i]?=some (ins D.nb.length c l):=by rw[<-hP,<-hc];exact zEE hbi hl);obtain⟨L,hL⟩:∃ L,ins D.nb.length c l=L:=⟨_,rfl⟩
  (rw[hL] at hPi;have hst:M.set i L=P.take (i+1)++D.fs.drop (i+1):=by rw[g2];exact iX hPl hPi);have hLl:L.length=l.length+1:=by rw[<-hL];exact zCW oM
  have hrow:=gS M i;rw[getD_some hMi] at hrow;have hLe:(enc cq l).take D.nb.length++([x6 (cR C)]++(enc cq l).drop D.nb.length)=enc cq L:=by rw[<-hL,<-hC];unfold ins;rw[<-cD,zKI];congr 1;rw[zKJ];rfl
  (have cfr:=d9 v r ⟨D.bs,NB,M,D.ob⟩ p b;obtain⟨U,hU⟩:∃ U,zJ ((1:Int):Rat)=U:=⟨_,rfl⟩;have c1:=s104 1 (by decide) (by decide);rw[hU] at c1;have hxl:((M.map (enc cq)).getD i []).length=l.length:=by rw[hrow,zK]);have cin:=zWX ((M.map (enc cq)).getD i []) D.nb.length (by rw[hxl];omega) (by rw[hxl];omega) (x6 (cR C)) rfl 114 114
  (have hle:i+1<=D.bs.length:=hi;have hmu:D.bs.length-(i+1)<D.bs.length-i:=by omega);cbv
  refine⟨zQ om om,?_⟩;refine aN hbi om ?_;cbv;refine yU hnM2 (.refl _) rfl okA cfr okR rfl rfl rfl rfl rfl rfl rfl rfl ?_;cbv;refine gI (σ:=Unit) (fun _=>⟨[(1,.ptr 1 0),(4,.int .i64 (fun _=>(w:Int))),(7,.ptr 7 0),(8,.int .i64 (fun _=>(D.nb.length:Int))),(9,.int .i64 (fun _=>(i:Int))),(11,.ptr 11 0),(86,.osl 1000001 1 (fun _=>0) (fun _=>D.bs.length)),(87,.int .i64 (fun _=>(D.bs.length:Int))),(88,.int .i64 (fun _=>(i:Int)))],
   fK v r ⟨D.bs,NB,M,D.ob⟩ p++fE ⟨D.bs,NB,M,D.ob⟩++[(1,.box [.ptr 1000000 0]),(7,.box [.int .i64 (fun _=>(a:Int))]),(11,.box (cR C))]⟩) (fun _=>True) (fun h1=>?_) (fun h1=>?_) ?_
  ·(have hbv:b<v:=by (try dsimp only [zI] at *);omega);have hC0:C=⟨false,[],[]⟩:=by rw[<-hC,<-hc,if_pos hbv];unfold zJ;simp[limbs_zero]
   subst hC0;cbv;exact⟨(),trivial,.le okZ (by cbv;repeat' first|exact trivial|exact lR|exact zB rfl|exact⟨rfl⟩|exact zE om|exact xB rfl|exact z5 rfl|exact yX rfl|apply zN) rfl⟩
  ·(have hbv:¬b<v:=by (try dsimp only [zI] at *);omega);have hCU:C=U:=by rw[<-hC,<-hc,if_neg hbv,<-hU];rfl
   subst hCU;cbv;refine cA c1 ?_;cbv;exact⟨(),trivial,.le okZ (by cbv;repeat' first|exact trivial|exact lR|exact zB rfl|exact⟨rfl⟩|exact zE om|exact xB rfl|exact z5 rfl|exact yX rfl|apply zN) rfl⟩
  (intro _ _;cbv;refine oH 16 [(15,114)] (.focus 1000003 114 (fun _=>i) rfl rfl (sU (by show i<(M.map (enc cq)).length;rw[y8];omega))) (by cbv) (by cbv) ?_;cbv;refine⟨zQ om om,?_⟩;refine rT om ?_;cbv;refine zC1 id rfl rfl okA cin rfl rfl rfl rfl ?_;cbv;refine⟨zQ om om,?_⟩;refine sto0 om ?_;cbv;refine⟨zC om om,?_⟩;cbv;obtain⟨M',hM'⟩:∃ M',M.set i L=M':=⟨_,rfl⟩;have hMl':M'.length=M.length:=by rw[<-hM',kD]);rw[hM'] at hst
  exact⟨(i+1,M'),⟨hle,hst⟩,hmu,.trans (.unfocus 1000003 114 [] [] rfl rfl rfl ⟨rfl,rfl⟩) (.le okZ (by
   cbv
   repeat' first|exact trivial|exact lR|exact zB rfl|exact⟨rfl⟩|exact zU rfl hMl'.symm|exact⟨by show (M.map (enc cq)).set i (((M.map (enc cq)).getD i []).take D.nb.length++([x6 (cR C)]++((M.map (enc cq)).getD i []).drop D.nb.length))=M'.map (enc cq);rw[hrow,hLe,<-hM'];exact map_set _ _ _⟩|apply zN) rfl)⟩
 ·(have hi:i=D.bs.length:=by (try dsimp only [zI] at *);omega);have hM:M=P:=by rw[g2,hi,<-hlf,vG,kC,<-hPl,s6]
  (subst hM;clear g2 h;have hob:=hw.ob;obtain⟨OB,hOB⟩:∃ OB,ins D.nb.length 0 D.ob=OB:=⟨_,rfl⟩;have hOl:OB.length=D.ob.length+1:=by rw[<-hOB];exact zCW oM);have cin:=zWX (enc cq D.ob) D.nb.length (by rw[zK];omega) (by rw[zK];omega) (x6 [.ff,.nil,.nil]) rfl 125 125
  rw[zK] at cin;have hOe:(enc cq D.ob).take D.nb.length++([x6 [.ff,.nil,.nil]]++(enc cq D.ob).drop D.nb.length)=enc cq OB:=by
   rw[<-hOB];unfold ins;rw[<-cD,zKI];congr 1;rw[zKJ];have h0:x6 (cq 0)=x6 [.ff,.nil,.nil]:=by
    (have:zJ 0=⟨false,[],[]⟩:=by unfold zJ;simp[limbs_zero]);unfold cq
    rw[this];rfl
   show _=enc cq (0::_);unfold enc;rw[uC,h0];rfl
  (rw[hOe,zK] at cin;have h1n:a∉D.bs:=fun q=>by have:=hy _ (.inl q);omega);have h2n:a∉D.nb:=fun q=>by have:=hy _ (.inr q);omega
  (have hwa:=Dic.aux_wf (v:=v) hw h1n h2n;have hD2:D.aux v a=⟨D.bs,NB,M,OB⟩:=by rw[<-hNB,<-hP,<-hOB];rfl);have hatw:(D.aux v a).at w D.nb.length=1:=by rw[Dic.aux_at hw w1,if_neg oM,if_pos rfl,if_neg oM]
  (have hne:(D.aux v a).at w D.nb.length≠0:=by rw[hatw];decide);obtain⟨D2,hD2e⟩:∃ D2,D.aux v a=D2:=⟨_,rfl⟩
  (rw[hD2e] at hD2 hwa hne hfA hE;have u1:D2.bs=D.bs:=by rw[hD2]);have u2:D2.nb=NB:=by rw[hD2]
  (have u3:D2.fs=M:=by rw[hD2]);have u4:D2.ob=OB:=by rw[hD2]
  have hnzr:∀ F,F.wf->Same F D2->∀ i:Nat,F.bs[i]?=some a->∃ j,j<F.nb.length/\F.at i j≠0:=fun F h1 h2 i h3=>zA9 (v:=v) hw h1n h2n h1 (by rw[hD2e];exact h2) h3;clear hD2 hD2e hatw;have hp3:Pvs D2 (D2.piv w D.nb.length):=.step .refl (by rw[u1];exact w1) (by rw[u2,hNl];omega) hne;have hwD3:=hp3.wf hwa;have hlD3:=hp3.len;have cpv:=rF v r D2 p w D.nb.length hwa (by rw[u1];exact w1) (by rw[u2,hNl];omega) hne oM (by rw[u2,hNl];omega) (by rw[u1];omega) (hfA D2 .refl);obtain⟨D3,hD3⟩:∃ D3,D2.piv w D.nb.length=D3:=⟨_,rfl⟩;rw[hD3] at hp3 hwD3 hlD3 cpv hE;rw[u1,u2,hNl] at hlD3;cbv;refine nP 9 [(8,125)] (by cbv) (by cbv) ?_;cbv;refine zC1 id rfl rfl okA cin rfl rfl rfl rfl ?_;cbv;refine yU (ps':=⟨[(1,.ptr 1 0),(7,.ptr 7 0),(128,.ptr 1000000 0),(129,.int .i64 (fun _=>(w:Int))),(130,.int .i64 (fun _=>(D.nb.length:Int)))],fK v r D2 p++fE D2++[(1,.box [.ptr 1000000 0]),(7,.box [.int .i64 (fun _=>(a:Int))])]⟩) hnM2
   (.le okZ (by cbv;repeat' first|exact trivial|exact lR|exact zB rfl|exact⟨rfl⟩|exact zU rfl (by first|(rw[u1];done)|(rw[u2];done)|(rw[u3];done)|(rw[u4];done))|exact zB (by first|(rw[u1];done)|(rw[u2];done)|(rw[u4];done))|exact⟨by rw[u3]⟩|apply zN) rfl) rfl okA cpv okR rfl rfl rfl rfl rfl rfl rfl rfl ?_
  (cbv;obtain⟨u,hu⟩:∃ u:List Rat,u=List.replicate (D3.nb.length+1) 0:=⟨_,rfl⟩;have hul:u.length=D3.nb.length+1:=by rw[hu];simp);have ha3:a∈D3.bs\/a∈D3.nb:=((hp3.same hwa).vars _).2 (.inr (by rw[u2,<-hNB];simp))
  (have cmi:=zU8 v r D3 (p+1) a u hu ha3 hwD3 oM oM oM (fun F hF=>hfA F (hp3.trans hF));have hmp:=rO (v:=v) (ln:=vio a) (65537-(p+1)) D3 (p+1);unfold zQT at hE;obtain⟨⟨G,q,ee,okk⟩,hR⟩:∃ R,qG v (vio a) (65537-(p+1)) D3 (p+1)=R:=⟨_,rfl⟩;rw[hR] at cmi hmp hE;dsimp only at cmi hmp;obtain⟨hmp,hmq⟩:=hmp;have hpG:=hp3.trans hmp;have hwG:=hpG.wf hwa;have hlG:=hmp.len;rw[hlD3.1,hlD3.2] at hlG;have hffG:=hfA G hpG;have haG:a∈G.bs\/a∈G.nb:=((hmp.same hwD3).vars _).2 ha3;have hq40:q<2^30:=by have:=hmq oM;omega);have hlu:((D3.nb.length:Int)+1).toNat=u.length:=by rw[hul];omega
  (have hzu:List.replicate ((D3.nb.length:Int)+1).toNat (x6 [.ff,.nil,.nil])=enc cq u:=by rw[hu,show Int.toNat ((D3.nb.length:Int)+1)=D3.nb.length+1 by omega];exact d7 _);refine⟨zC om om,yB om om,vF om om,?_⟩;refine yU (ps':=⟨[(1,.ptr 1 0),(7,.ptr 7 0),(13,.fn 90 [.ptr 1 0,.ptr 7 0,.ptr 12 0]),(141,.ptr 1000000 0),(142,.fn 90 [.ptr 1 0,.ptr 7 0,.ptr 12 0])],fK v r D3 (p+1)++fE D3++[(1,.box [.ptr 1000000 0]),(7,.box [.int .i64 (fun _=>(a:Int))]),(12,.box [.osl 138 3 (fun _=>0) (fun _=>u.length)]),(138,.arr 3 (fun _=>enc cq u))]⟩) (fun n=>match nqb n 1000002 with|true=>80|false=>match nqb n 1000004 with|true=>125|false=>match nqb n 1000006 with|true=>1|false=>match nqb n 1000007 with|true=>7|false=>match nqb n 1000008 with|true=>12|false=>match nqb n 1000009 with|true=>138|false=>n)
   (.le okZ (by cbv;repeat' first|exact trivial|exact lR|exact zB rfl|exact⟨rfl⟩|exact zU rfl hlu|exact zB hzu|apply zN) rfl) rfl (by exact⟨lR,eU _,trivial⟩) cmi okR rfl rfl rfl rfl rfl rfl rfl rfl ?_
  cbv;refine z6 (fun h1=>?_) (fun h1=>?_)
  rotate_left
  {subst h1;dsimp only at hE;cases hE;cbv;refine j6 (ps':=⟨[(2,.nil),(3,.ff)],fK v r E q'++fE E⟩) id (wkW) rfl okR (by rfl) okR ?_;cbv;exact okA};subst h1;dsimp only at hE;cbv;by_cases hbi:0<=uG G.bs a
  ·(obtain⟨i0,hi0⟩:∃ i0:Nat,uG G.bs a=i0:=⟨(uG G.bs a).toNat,by omega⟩;have hg:=uM hbi;rw[hi0,xN] at hg;have hgl:=yO hg;have hlfG:=hwG.len;obtain⟨l,hl⟩:=zO (l:=G.fs) (i:=i0) oM;have hvio:vio a G=l:=mW hi0 hl;have hll:=hwG.row i0 l hl;rw[hvio,hi0,xN,if_pos (show (0:Int)<=(i0:Int) by omega),getD_some hl] at hE;have cl1:=zNZ v r G q a u l i0 hwG oM hi0 hl;obtain⟨c,hc⟩:=zO (show G.nb.length<l.length by omega);obtain⟨C,hC⟩:∃ C,zJ c=C:=⟨_,rfl⟩;rw[getD_some hc] at hE;have fl:=hffG.fs l (zZ hl);have fc:=fl c (zZ hc);have szC:C.sz (2^30):=by rw[<-hC];exact yF fc);have qC:C.q=c:=by rw[<-hC];exact yY c
   (have csc:=s86 C (by have:=szC.n;omega);rw[qC] at csc;have hpos:0<xF c↔0<c:=by unfold xF;split <;> (try split) <;> constructor <;> intro _ <;> first|assumption|omega|(exfalso;omega)|grind);generalize xF c=sc at *
   (have hrows:(G.fs.map (enc cq)).set i0 (enc cq l)=G.fs.map (enc cq):=by rw[map_set,cF hl]);have hln:l.length=G.nb.length+1:=hll
   (refine yU hnM3 (.refl _) rfl okA cl1 okR rfl rfl rfl rfl rfl rfl rfl rfl ?_;cbv;refine⟨zC om om,zQ om om,?_⟩;refine dK hc om hC ?_;cbv;refine cA csc ?_;cbv;have hyG:∀ y,y∈G.bs\/y∈G.nb->y<v+r+1:=fun y hyy=>by have h3:=((hpG.same hwa).vars y).1 hyy;rw[u1,u2,<-hNB] at h3;rcases h3 with h3|h3;{have:=hy y (.inl h3);omega};{rcases wQ.1 h3 with h3|h3;{have:=hy y (.inr h3);omega};{simp only[kE] at h3;omega}});refine zD (fun h1=>?_) (fun h1=>?_);{rw[if_pos (hpos.1 h1)] at hE;have cdu:=zRJ v r G q i0 l hll oM oM oM (fun y hyy=>by have:=hyG y (.inr hyy);omega);obtain⟨DU,hDU⟩:∃ DU,oF v r G.nb l=DU:=⟨_,rfl⟩;rw[hDU] at cdu hE;cases hE;cbv;refine yU (fun n=>match nqb n 1000002 with|true=>80|false=>match nqb n 1000004 with|true=>125|false=>match nqb n 1000005 with|true=>31|false=>n) (.refl _) rfl okA cdu okR rfl rfl rfl rfl rfl rfl rfl rfl ?_;cbv;refine j6 (ps':=⟨[(2,.sl (fun _=>enc cq DU)),(3,.tt)],fK v r E q'++fE E⟩) id (.trans (.unfocus 1000003 31 [] [] rfl rfl rfl ⟨rfl,by show l.length=(enc cq l).length;rw[zK]⟩) (.le okZ (by cbv;repeat' first|exact trivial|exact lR|exact zB rfl|exact⟨hrows⟩|apply zN) rfl)) rfl okR (by rfl) okR ?_;cbv;exact okA}
   ·rw[if_neg (fun w=>h1 (hpos.2 w))] at hE;have cix:=lT G.bs a oM;rw[hi0] at cix;cbv;refine mH (ps':=⟨[(1,.ptr 1 0),(7,.ptr 7 0)],fK v r G q++fE G++[(1,.box [.ptr 1000000 0]),(7,.box [.int .i64 (fun _=>(a:Int))])]⟩) 6
     (.trans (.unfocus 1000003 31 [] [] rfl rfl rfl ⟨rfl,by show l.length=(enc cq l).length;rw[zK]⟩) (.le okZ (by cbv;repeat' first|exact trivial|exact lR|exact zB rfl|exact⟨hrows⟩|apply zN) rfl)) (by cbv) ?_
    cbv;refine uE id okA cix okR rfl rfl rfl rfl rfl rfl ?_;cbv;refine nR om ?_;cbv;refine mH 13 (.focus 1000003 31 (fun _=>i0) rfl rfl (sU (by show i0<(G.fs.map (enc cq)).length;rw[y8];omega))) (by cbv) ?_;cbv;have hrow':=gS G.fs i0;rw[getD_some hl] at hrow';obtain⟨j0,hj0,hj1⟩:=hnzr G hwG (hpG.same hwa) i0 hg;have hnz:=zAF (l.take G.nb.length) 0 (by unfold Dic.at at hj1;rw[getD_some hl] at hj1;refine⟨l.getD j0 0,zZ (i:=j0) ?_,hj1⟩;rw[wG hj0];exact yR oM)
    (obtain⟨n1,n2,x,n3,n4⟩:=hnz;rw[Nat.sub_zero] at n3;have cif:=zX9 l G.nb.length oM oM (fl.mono (by decide));rw[<-hrow'] at cif;obtain⟨jn,hjn⟩:∃ jn:Nat,lY (l.take G.nb.length) 0=jn:=⟨(lY (l.take G.nb.length) 0).toNat,by omega⟩;rw[hjn] at cif hE n3;rw[xN] at hE n3;have hjl:jn<G.nb.length:=by have:=yO n3;rw[y4] at this;omega);rw[wG hjl] at n3
    (have hatj:G.at i0 jn≠0:=by unfold Dic.at;rw[getD_some hl,getD_some n3];exact n4);have hpF:Pvs D2 (G.piv i0 jn):=.step hpG hgl hjl hatj
    (have hwF:=hpF.wf hwa;have hlF:(G.piv i0 jn).bs.length=G.bs.length/\(G.piv i0 jn).nb.length=G.nb.length:=⟨Dic.piv_bl _ _ _,Dic.piv_nl _ _ _⟩;have hgF:(G.piv i0 jn).nb[jn]?=some a:=by show (G.nb.set jn (G.bs.getD i0 0))[jn]?=_;rw[kV,if_pos rfl,if_pos hjl,getD_some hg]);have hidx:uG (G.piv i0 jn).nb a=(jn:Int):=by have h3:=uL (zZ hgF);have h4:=kN hwF.nb (uM h3) hgF;omega
    have cpv:=rF v r G q i0 jn hwG hgl hjl hatj oM oM oM hffG;have hE':((G.piv i0 jn).del (uG (G.piv i0 jn).nb a).toNat,q+1,none,true)=(E,q',ref,ok):=hE;rw[hidx,xN] at hE';obtain⟨F,hFe⟩:∃ F,G.piv i0 jn=F:=⟨_,rfl⟩;rw[hFe] at hpF hwF hlF hgF hidx cpv hE';refine⟨zQ om om,?_⟩;refine rT om ?_;cbv;refine⟨m5 om om (by show (G.nb.length:Int)<=(((G.fs.map (enc cq)).getD i0 []).length:Int);rw[hrow',zK];omega),zNP om,?_⟩;refine yU (fun n=>match nqb n 1000001 with|true=>31|false=>n) (.refl _) rfl (by exact⟨zU (by show 0+Int.toNat 0=0;rfl) (by show Int.toNat (G.nb.length:Int)-Int.toNat 0=G.nb.length;omega),eU _,trivial⟩) cif okR rfl rfl rfl rfl rfl rfl rfl rfl ?_;cbv;refine yU (ps':=⟨[(1,.ptr 1 0),(7,.ptr 7 0),(183,.ptr 1000000 0),(184,.int .i64 (fun _=>(i0:Int))),(185,.int .i64 (fun _=>(jn:Int)))],fK v r G q++fE G++[(1,.box [.ptr 1000000 0]),(7,.box [.int .i64 (fun _=>(a:Int))])]⟩) hnM2
     (.trans (.unfocus 1000003 31 [] [] rfl rfl rfl ⟨rfl,rfl⟩) (.le okZ (by cbv;repeat' first|exact trivial|exact lR|exact zB rfl|exact⟨by show (G.fs.map (enc cq)).set i0 ((G.fs.map (enc cq)).getD i0 [])=G.fs.map (enc cq);rw[hrow'];exact hrows⟩|apply zN) rfl)) rfl okA cpv okR rfl rfl rfl rfl rfl rfl rfl rfl ?_
    (cbv;obtain⟨q1,hq1⟩:∃ q1,q+1=q1:=⟨_,rfl⟩;have hq1c:(q:Int)+1=(q1:Int):=by omega);rw[hq1] at hE'
    (have hlF1:F.nb.length=G.nb.length:=hlF.2;have cix2:=lT F.nb a oM;rw[hidx] at cix2;have hjF:jn<F.nb.length:=yO hgF;have cdn:=zWZ (enc ci F.nb) jn (by rw[zK];exact hjF) (by rw[zK];omega) 80 80;rw[bQ,zK,zK] at cdn;have hobF:=hwF.ob;have hfsF:=hwF.len;have cdo:=zQR (enc cq F.ob) jn (by rw[zK];omega) (by rw[zK];omega) 125 125;rw[bQ,zK,zK] at cdo;obtain⟨NF,hNF⟩:∃ NF,F.nb.eraseIdx jn=NF:=⟨_,rfl⟩;obtain⟨OF,hOF⟩:∃ OF,F.ob.eraseIdx jn=OF:=⟨_,rfl⟩;obtain⟨PF,hPF⟩:∃ PF,F.fs.map (·.eraseIdx jn)=PF:=⟨_,rfl⟩;have hPFl:PF.length=F.fs.length:=by rw[<-hPF,y8]);have hEF:F.del jn=⟨F.bs,NF,PF,OF⟩:=by rw[<-hNF,<-hOF,<-hPF];rfl
    rw[hNF] at cdn;rw[hOF] at cdo;rw[hEF] at hE';cbv;refine zT 6 (by cbv) ?_;cbv;refine uE hnM4 okA cix2 okR rfl rfl rfl rfl rfl rfl ?_;cbv;refine pP (σ:=Unit) (fun _=>⟨[(1,.ptr 1 0),(8,.int .i64 (fun _=>(jn:Int)))],fK v r ⟨F.bs,NF,F.fs,F.ob⟩ q1++fE ⟨F.bs,NF,F.fs,F.ob⟩++[(1,.box [.ptr 1000000 0])]⟩) (fun _=>True) (.refl _) (by cbv) ?_ ?_
    ·cbv
     repeat' first
      |exact trivial
      |exact zC om om
      |(refine yU id (.refl _) rfl (by exact⟨lR,lR,zE om,trivial⟩) cdn okR rfl rfl rfl rfl rfl rfl rfl rfl ?_;cbv)
      |exact⟨(),trivial,wkW⟩
      |apply zN
    intro _ _;cbv;refine zX (σ:=Nat×List (List Rat)) (fun s=>⟨[(1,.ptr 1 0),(8,.int .i64 (fun _=>(jn:Int))),(208,.int .i64 (fun _=>(F.fs.length:Int))),(209,.int .i64 (fun _=>(s.1:Int)))],fK v r ⟨F.bs,NF,s.2,F.ob⟩ q1++fE ⟨F.bs,NF,s.2,F.ob⟩++[(1,.box [.ptr 1000000 0])]⟩)
     (fun s=>s.1<=F.fs.length/\s.2=PF.take s.1++F.fs.drop s.1) (fun s=>F.fs.length-s.1)
     (0,F.fs) ⟨by omega,by simp⟩ (wkW) ?_
    (intro s hs;obtain⟨i,M⟩:=s;obtain⟨g1,g2⟩:=hs;dsimp only at g1 g2;have hMl:M.length=F.fs.length:=by rw[g2,wP,y4,kS];omega);cbv
    refine zD (fun h=>?_) (fun h=>?_)
    ·(have hi:i<F.fs.length:=om;obtain⟨l,hl⟩:=zO hi;have hll:=hwF.row i l hl;have hMi:M[i]?=some l:=by rw[g2];exact zIH hPFl hl);obtain⟨L,hL⟩:∃ L,l.eraseIdx jn=L:=⟨_,rfl⟩
     (have hPi:PF[i]?=some L:=by rw[<-hPF,vU,hl,<-hL];rfl);have hst:M.set i L=PF.take (i+1)++F.fs.drop (i+1):=by rw[g2];exact iX hPFl hPi
     (have hrow:=gS M i;rw[getD_some hMi] at hrow;have hxl:((M.map (enc cq)).getD i []).length=l.length:=by rw[hrow,zK]);have cdr:=zQR ((M.map (enc cq)).getD i []) jn (by rw[hxl];omega) (by rw[hxl];omega) 227 227
     (have hLe:((M.map (enc cq)).getD i []).eraseIdx jn=enc cq L:=by rw[hrow,bQ,hL]);have hle:i+1<=F.fs.length:=hi
     (have hmu:F.fs.length-(i+1)<F.fs.length-i:=by omega);cbv
     (refine oH 16 [(15,227)] (.focus 1000003 227 (fun _=>i) rfl rfl (sU (by show i<(M.map (enc cq)).length;rw[y8];omega))) (by cbv) (by cbv) ?_;cbv;refine⟨zQ om om,?_⟩;refine rT om ?_;cbv;refine⟨zC om om,?_⟩;cbv;refine zC1 id rfl rfl (by exact⟨lR,lR,zE om,trivial⟩) cdr rfl rfl rfl rfl ?_;cbv;refine⟨zQ om om,?_⟩;refine sto0 om ?_;cbv;refine⟨zC om om,?_⟩;cbv;obtain⟨M',hM'⟩:∃ M',M.set i L=M':=⟨_,rfl⟩;have hMl':M'.length=M.length:=by rw[<-hM',kD]);rw[hM'] at hst
     exact⟨(i+1,M'),⟨hle,hst⟩,hmu,.trans (.unfocus 1000003 227 [] [] rfl rfl rfl ⟨rfl,rfl⟩) (.le okZ (by
      cbv
      repeat' first|exact trivial|exact lR|exact zB rfl|exact⟨rfl⟩|exact zU rfl hMl'.symm|exact⟨by show (M.map (enc cq)).set i (((M.map (enc cq)).getD i []).eraseIdx jn)=M'.map (enc cq);rw[hLe,<-hM'];exact map_set _ _ _⟩|apply zN) rfl)⟩
    ·(have hi:i=F.fs.length:=by (try dsimp only [zI] at *);omega);have hM:M=PF:=by rw[g2,hi,vG,kC,<-hPFl,s6]
     (subst hM;clear g2 h;have e1:(⟨F.bs,NF,M,OF⟩:Dic)=E/\q1=q'/\none=ref/\true=ok:=by cases hE';exact⟨rfl,rfl,rfl,rfl⟩);obtain⟨e1,e2,e3,e4⟩:=e1
     subst e1 e2 e3 e4;cbv;refine pP (σ:=Unit) (fun _=>⟨[],fK v r ⟨F.bs,NF,M,OF⟩ q1++fE ⟨F.bs,NF,M,OF⟩⟩) (fun _=>True) (.refl _) (by cbv) ?_ ?_
     ·cbv
      repeat' first
       |exact trivial
       |exact zC om om
       |(refine yU id (.refl _) rfl (by exact⟨lR,lR,zE om,trivial⟩) cdo okR rfl rfl rfl rfl rfl rfl rfl rfl ?_;cbv)
       |exact⟨(),trivial,wkW⟩
       |apply zN
     intro _ _;cbv;refine j6 (ps':=⟨[(2,.nil),(3,.tt)],fK v r ⟨F.bs,NF,M,OF⟩ q1++fE ⟨F.bs,NF,M,OF⟩⟩) id (wkW) rfl okR (by rfl) okR ?_;cbv;exact okA
  ·(have hab:a∉G.bs:=fun q0=>hbi (uL q0);have haN:a∈G.nb:=haG.resolve_left hab;have hge:=uL haN;obtain⟨jn,hjn⟩:∃ jn:Nat,uG G.nb a=jn:=⟨(uG G.nb a).toNat,by omega⟩;have hgG:=uM hge;rw[hjn,xN] at hgG;have hjl:=yO hgG;rw[zSR hab haN,if_neg (show ¬((0:Rat)<0) by decide),if_neg hbi,hjn,xN] at hE;have hibn:uG G.bs a<0:=by omega);have cvn:=zNY v r G q a u jn oM oM oM hibn hjn oM
   (obtain⟨us,hus⟩:∃ us,u.set jn 1=us:=⟨_,rfl⟩;have husl:us.length=u.length:=by rw[<-hus,kD]);have hx:us[G.nb.length]?=some 0:=by rw[<-hus,mQ oM,hu,gC,if_pos oM]
   (rw[hus] at cvn;obtain⟨Z,hZ⟩:∃ Z,zJ 0=Z:=⟨_,rfl⟩;have szZ:Z.sz (2^30):=by rw[<-hZ];exact yF (wD (by decide)));have csc:=s86 Z (by have:=szZ.n;omega)
   (have qZ:Z.q=0:=by rw[<-hZ];exact yY 0);rw[qZ,show xF 0=0 by rfl] at csc
   (have cix:=lT G.bs a oM;obtain⟨ib,hib⟩:∃ ib,uG G.bs a=ib:=⟨_,rfl⟩;rw[hib] at cix hibn;refine yU hnM3 (.refl _) rfl okA cvn okR rfl rfl rfl rfl rfl rfl rfl rfl ?_;cbv;refine⟨zC om om,zQ om om,?_⟩;refine dK hx om hZ ?_;cbv;refine cA csc ?_;cbv;refine cW om ?_;cbv;refine zT 6 (by cbv) ?_;cbv;refine uE hnM2 okA cix okR rfl rfl rfl rfl rfl rfl ?_;cbv;refine cW om ?_;have hidx:uG G.nb a=(jn:Int):=hjn;have hE':(G.del jn,q,none,true)=(E,q',ref,ok):=hE;obtain⟨F,hFe⟩:∃ F,F=G:=⟨_,rfl⟩;obtain⟨q1,hq1⟩:∃ q1,q1=q:=⟨_,rfl⟩;subst hFe hq1;have hwF:=hwG;have hgF:=hgG;have hlF1:F.nb.length=D.nb.length+1:=hlG.2;have cix2:=lT F.nb a oM;rw[hidx] at cix2;have hjF:jn<F.nb.length:=yO hgF;have cdn:=zWZ (enc ci F.nb) jn (by rw[zK];exact hjF) (by rw[zK];omega) 80 80;rw[bQ,zK,zK] at cdn;have hobF:=hwF.ob;have hfsF:=hwF.len;have cdo:=zQR (enc cq F.ob) jn (by rw[zK];omega) (by rw[zK];omega) 125 125;rw[bQ,zK,zK] at cdo;obtain⟨NF,hNF⟩:∃ NF,F.nb.eraseIdx jn=NF:=⟨_,rfl⟩;obtain⟨OF,hOF⟩:∃ OF,F.ob.eraseIdx jn=OF:=⟨_,rfl⟩;obtain⟨PF,hPF⟩:∃ PF,F.fs.map (·.eraseIdx jn)=PF:=⟨_,rfl⟩;have hPFl:PF.length=F.fs.length:=by rw[<-hPF,y8]);have hEF:F.del jn=⟨F.bs,NF,PF,OF⟩:=by rw[<-hNF,<-hOF,<-hPF];rfl
   rw[hNF] at cdn;rw[hOF] at cdo;rw[hEF] at hE';cbv;refine zT 6 (by cbv) ?_;cbv;refine uE hnM4 okA cix2 okR rfl rfl rfl rfl rfl rfl ?_;cbv;refine pP (σ:=Unit) (fun _=>⟨[(1,.ptr 1 0),(8,.int .i64 (fun _=>(jn:Int)))],fK v r ⟨F.bs,NF,F.fs,F.ob⟩ q1++fE ⟨F.bs,NF,F.fs,F.ob⟩++[(1,.box [.ptr 1000000 0])]⟩) (fun _=>True) (.refl _) (by cbv) ?_ ?_
   ·cbv
    repeat' first
     |exact trivial
     |exact zC om om
     |(refine yU id (.refl _) rfl (by exact⟨lR,lR,zE om,trivial⟩) cdn okR rfl rfl rfl rfl rfl rfl rfl rfl ?_;cbv)
     |exact⟨(),trivial,wkW⟩
     |apply zN
   intro _ _;cbv;refine zX (σ:=Nat×List (List Rat)) (fun s=>⟨[(1,.ptr 1 0),(8,.int .i64 (fun _=>(jn:Int))),(208,.int .i64 (fun _=>(F.fs.length:Int))),(209,.int .i64 (fun _=>(s.1:Int)))],fK v r ⟨F.bs,NF,s.2,F.ob⟩ q1++fE ⟨F.bs,NF,s.2,F.ob⟩++[(1,.box [.ptr 1000000 0])]⟩)
    (fun s=>s.1<=F.fs.length/\s.2=PF.take s.1++F.fs.drop s.1) (fun s=>F.fs.length-s.1)
    (0,F.fs) ⟨by omega,by simp⟩ (wkW) ?_
   (intro s hs;obtain⟨i,M⟩:=s;obtain⟨g1,g2⟩:=hs;dsimp only at g1 g2;have hMl:M.length=F.fs.length:=by rw[g2,wP,y4,kS];omega);cbv
   refine zD (fun h=>?_) (fun h=>?_)
   ·(have hi:i<F.fs.length:=om;obtain⟨l,hl⟩:=zO hi;have hll:=hwF.row i l hl;have hMi:M[i]?=some l:=by rw[g2];exact zIH hPFl hl);obtain⟨L,hL⟩:∃ L,l.eraseIdx jn=L:=⟨_,rfl⟩
    (have hPi:PF[i]?=some L:=by rw[<-hPF,vU,hl,<-hL];rfl);have hst:M.set i L=PF.take (i+1)++F.fs.drop (i+1):=by rw[g2];exact iX hPFl hPi
    (have hrow:=gS M i;rw[getD_some hMi] at hrow;have hxl:((M.map (enc cq)).getD i []).length=l.length:=by rw[hrow,zK]);have cdr:=zQR ((M.map (enc cq)).getD i []) jn (by rw[hxl];omega) (by rw[hxl];omega) 227 227
    (have hLe:((M.map (enc cq)).getD i []).eraseIdx jn=enc cq L:=by rw[hrow,bQ,hL]);have hle:i+1<=F.fs.length:=hi
    (have hmu:F.fs.length-(i+1)<F.fs.length-i:=by omega);cbv
    (refine oH 16 [(15,227)] (.focus 1000003 227 (fun _=>i) rfl rfl (sU (by show i<(M.map (enc cq)).length;rw[y8];omega))) (by cbv) (by cbv) ?_;cbv;refine⟨zQ om om,?_⟩;refine rT om ?_;cbv;refine⟨zC om om,?_⟩;cbv;refine zC1 id rfl rfl (by exact⟨lR,lR,zE om,trivial⟩) cdr rfl rfl rfl rfl ?_;cbv;refine⟨zQ om om,?_⟩;refine sto0 om ?_;cbv;refine⟨zC om om,?_⟩;cbv;obtain⟨M',hM'⟩:∃ M',M.set i L=M':=⟨_,rfl⟩;have hMl':M'.length=M.length:=by rw[<-hM',kD]);rw[hM'] at hst
    exact⟨(i+1,M'),⟨hle,hst⟩,hmu,.trans (.unfocus 1000003 227 [] [] rfl rfl rfl ⟨rfl,rfl⟩) (.le okZ (by
     cbv
     repeat' first|exact trivial|exact lR|exact zB rfl|exact⟨rfl⟩|exact zU rfl hMl'.symm|exact⟨by show (M.map (enc cq)).set i (((M.map (enc cq)).getD i []).eraseIdx jn)=M'.map (enc cq);rw[hLe,<-hM'];exact map_set _ _ _⟩|apply zN) rfl)⟩
   ·(have hi:i=F.fs.length:=by (try dsimp only [zI] at *);omega);have hM:M=PF:=by rw[g2,hi,vG,kC,<-hPFl,s6]
    (subst hM;clear g2 h;have e1:(⟨F.bs,NF,M,OF⟩:Dic)=E/\q1=q'/\none=ref/\true=ok:=by cases hE';exact⟨rfl,rfl,rfl,rfl⟩);obtain⟨e1,e2,e3,e4⟩:=e1
    subst e1 e2 e3 e4;cbv;refine pP (σ:=Unit) (fun _=>⟨[],fK v r ⟨F.bs,NF,M,OF⟩ q1++fE ⟨F.bs,NF,M,OF⟩⟩) (fun _=>True) (.refl _) (by cbv) ?_ ?_
    ·cbv
     repeat' first
      |exact trivial
      |exact zC om om
      |(refine yU id (.refl _) rfl (by exact⟨lR,lR,zE om,trivial⟩) cdo okR rfl rfl rfl rfl rfl rfl rfl rfl ?_;cbv)
      |exact⟨(),trivial,wkW⟩
      |apply zN
    intro _ _;cbv;refine j6 (ps':=⟨[(2,.nil),(3,.tt)],fK v r ⟨F.bs,NF,M,OF⟩ q1++fE ⟨F.bs,NF,M,OF⟩⟩) id (wkW) rfl okR (by rfl) okR ?_;cbv;exact okA
def tL (v r : Nat) (D : Dic) : List (Nat × Obj') :=
  [(1000000, .box [.int .i64 (fun _ => (v : Int)), .int .i64 (fun _ => (r : Int)), .osl 1000001 1 (fun _ => 0) (fun _ => D.bs.length), .osl 1000002 1 (fun _ => 0) (fun _ => D.nb.length), .osl 1000003 1 (fun _ => 0) (fun _ => D.fs.length), .nil, .int .i64 (fun _ => 0)]),
   (1000001, .arr 1 (fun _ => enc ci D.bs)), (1000002, .arr 1 (fun _ => enc ci D.nb)), (1000003, .mat 3 (fun _ => D.fs.map (enc cq)) [])]
theorem zWB (v r:Nat):yI [[.int .i64 (fun _=>(v:Int)+(r:Int))]]=enc ci [v+r]:=by show [[D.int .i64 ((v:Int)+(r:Int))]]=[[D.int .i64 ((v+r:Nat):Int)]];rw[Int.natCast_add]
def lnGo:List (Int×Rat)->List Rat->List Rat
 |[],l=>l| t::r,l=>lnGo r (l.set t.1.toNat t.2)
def lnS (n:Nat) (f:F):List Rat:=(lnGo f.ts (List.replicate (n+1) 0)).set n f.c
theorem mB:∀ {ts:List (Int×Rat)} {l:List Rat},(lnGo ts l).length=l.length
 |[],_=>rfl| t::r,l=>by rw[lnGo,mB,kD]
theorem zRF (v r:Nat)(D:Dic)(ts:List (Int×Rat))(c:Rat)(TS:List (Int×R))(C:R)(hTS:tR ts=TS)(hC:zJ c=C)(W:List Rat)(hW:lnGo ts (List.replicate (D.nb.length+1) 0)=W)(hn:D.nb.length<2^30)(hl:ts.length<2^30)(hr:∀ t,t∈ts->0<=t.1/\t.1<D.nb.length):Sound 85 [.ptr 1000000 0,.agg [tsv TS,.bool (fun _=>C.neg),nat C.num,nat C.den]] (tL v r D) [] (.osl 5 3 (fun _=>0) (fun _=>D.nb.length+1)) (tL v r D) [(5,.arr 3 (fun _=>enc cq (W.set D.nb.length c)))]:=by
 refine sF Tryz.f85 ?_;have hWl:W.length=D.nb.length+1:=by rw[<-hW,mB,lI]
 have htl:=uZ ts;rw[hTS] at htl;cbv;refine⟨zC om om,yB om om,vF om om,?_⟩;refine zX (σ:=Nat×List Rat) (fun s=>⟨[(3,.ptr 3 0),(5,.osl 14 3 (fun _=>0) (fun _=>D.nb.length+1)),(16,tsv TS),(17,.int .i64 (fun _=>(ts.length:Int))),(18,.int .i64 (fun _=>(s.1:Int)))],tL v r D++[(3,.box [tsv TS,.bool (fun _=>C.neg),nat C.num,nat C.den]),(14,.arr 3 (fun _=>enc cq s.2))]⟩)
  (fun s=>s.1<=ts.length/\s.2.length=D.nb.length+1/\W=lnGo (ts.drop s.1) s.2) (fun s=>ts.length-s.1)
  (0,List.replicate (D.nb.length+1) 0) ⟨by omega,by simp,hW.symm⟩ (.le (by cbv;repeat' first|exact trivial|exact lR|exact zE (by (try dsimp only [zI] at *);rw[zK];omega)|exact zU rfl (by show Int.toNat _=_;omega)|apply zN) (by cbv;repeat' first|exact trivial|exact lR|exact zB rfl|exact⟨rfl⟩|exact zB (by show List.replicate (Int.toNat _) _=_;rw[show Int.toNat ((D.nb.length:Int)+1)=D.nb.length+1 by omega];exact d7 _)|apply zN) rfl) ?_
 intro s hs;obtain⟨i,l⟩:=s;obtain⟨g1,g2,g3⟩:=hs;dsimp only at g1 g2 g3;cbv;refine zD (fun h=>?_) (fun h=>?_)
 ·(dsimp only at h;have hi:i<ts.length:=om;obtain⟨t,ht⟩:=zO hi;rw[wK ht,lnGo] at g3;obtain⟨y,q⟩:=t;obtain⟨hy0,hyn⟩:=hr _ (zZ ht);dsimp only at hy0 hyn g3;obtain⟨k,hk⟩:∃ k:Nat,y.toNat=k:=⟨_,rfl⟩;rw[hk] at g3;obtain⟨Q,hQ⟩:∃ Q,zJ q=Q:=⟨_,rfl⟩;have hTi:TS[i]?=some (y,Q):=by rw[<-hTS,<-hQ];unfold tR;rw[vU,ht];rfl);obtain⟨x,hx⟩:=zO (show k<l.length by (try dsimp only [zI] at *);omega)
  (obtain⟨X,hX⟩:∃ X,zJ x=X:=⟨_,rfl⟩;have hle:i+1<=ts.length:=hi;have hmu:ts.length-(i+1)<ts.length-i:=by omega);cbv
  refine xC hTi kG jE ?_;cbv;refine⟨zQ om om,?_⟩;refine dK hx om hX ?_;cbv;refine⟨zC om om,?_⟩;cbv;exact⟨(i+1,l.set k q),⟨hle,by rw[kD];exact g2,g3⟩,hmu,.le okZ (by cbv;repeat' first|exact trivial|exact lR|exact zB rfl|exact⟨rfl⟩|exact zB (by show (enc cq l).set (0+Int.toNat y) _=enc cq (l.set k q);rw[xA,hk];exact p7 hQ)|apply zN) rfl⟩
 ·(dsimp only at h;have hi:i=ts.length:=by (try dsimp only [zI] at *);omega);have hWe:l=W:=by rw[g3,hi,vG];rfl
  subst hWe;cbv;obtain⟨x,hx⟩:=zO (show D.nb.length<l.length by omega);obtain⟨X,hX⟩:∃ X,zJ x=X:=⟨_,rfl⟩;refine⟨zC om om,?_⟩;cbv;refine⟨zQ om om,?_⟩;refine dK hx om hX ?_;cbv;refine j6 (ps':=⟨[(4,.osl 14 3 (fun _=>0) (fun _=>D.nb.length+1))],tL v r D++[(14,.arr 3 (fun _=>enc cq (l.set D.nb.length c)))]⟩) (fun n=>match nqb n 5 with|true=>14|false=>n)
   (.le okZ (by
    cbv
    repeat' first|exact trivial|exact lR|exact zB rfl|exact⟨rfl⟩|exact zB (by show (enc cq l).set (0+Int.toNat _) _=enc cq (l.set D.nb.length c);rw[xA,show Int.toNat (((D.nb.length+1:Nat):Int)-1)=D.nb.length by omega];exact p7 hC)|apply zN) rfl) rfl okR (by rfl) okR ?_
  exact lR
theorem zN0 (v r:Nat)(D:Dic)(f:F)(hn:D.nb.length<2^30)(hl:f.ts.length<2^30)(hr:∀ t,t∈f.ts->0<=t.1/\t.1<D.nb.length):Sound 85 [.ptr 1000000 0,fv f] (tL v r D) [] (.osl 5 3 (fun _=>0) (fun _=>D.nb.length+1)) (tL v r D) [(5,.arr 3 (fun _=>enc cq (lnS D.nb.length f)))] :=
 zRF v r D f.ts f.c _ _ rfl rfl _ rfl hn hl hr
end Go.Proofs.YtfainocfaddbdaaGreat
