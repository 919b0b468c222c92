/- A part of the proof: SyC, SyD, SyE, SyF, SnA, SnB, SyG, SyH. -/
import Derived.Test.YtboocdbmnfjomaaGreatR36
import Derived.Test.YtboocdbmnfjomaaGreatR13
import Derived.Test.YtboocdbmnfjomaaGreatChecked
import Derived.Deep.RegionLaw
import Derived.WalkKit
import Derived.Lib.Walk
import Derived.Lib.SliceRun
import Derived.Lib.AppendZerosOnto
import Derived.Lib.Overlaps
set_option linter.all false
namespace Go.Proofs.YtboocdbmnfjomaaGreat
open Go
set_option maxRecDepth 100000
set_option maxHeartbeats 4000000
def tM (fs:List (List Rat))(i:Nat):(fs.map (enc cq)).getD i []=enc cq (fs.getD i []):=by simp only[wK,vH];cases fs[i]? <;> rfl
def map_set (fs:List (List Rat))(i:Nat)(l:List Rat):(fs.map (enc cq)).set i (enc cq l)=(fs.set i l).map (enc cq):=by rw[List.map_set]
def oQ (fs:List (List Rat))(i:Nat):(fs.map (enc cq)).set i (enc cq (fs.getD i []))=fs.map (enc cq):=by rw[map_set];congr 1;by_cases h:i<fs.length;{obtain⟨l,hl⟩:=y6 h;rw[getD_some hl,mQ hl]};{rw[List.set_eq_of_length_le oM]}
def WU {els:List (List D)}{l:List Rat}{i i':Nat}{x:Rat}{X:R}{K:List PV->Prop}(he:els=enc cq l)(h:l[i]?=some x)(hi:i'=i)(hX:zI x=X)(hK:K (cR X)):ElOk 3 (λ_=>els) (λ_=>i') K:=by subst he;exact pV h hi hX hK
def UB:Pg.funcs[208]?=some Tryz.f208:=by rw[uM];rfl
def KQ (v r:Nat)(D:Dic)(p:Nat)(i:Nat)(hw:D.wf)(hi:i<D.fs.length)(hn:D.nb.length<2^40):Sound 208 [.ptr 1000000 0,iV i] (tO v r D p) [] (rv (zI (D.cst i))) (tO v r D p) []:=by
 refine xR UB rfl rfl rfl rfl rfl ?_;obtain⟨l,hl⟩:=y6 hi;have hlen:=hw.row i l hl;have hgl:D.fs.getD i []=l:=getD_some hl;obtain⟨x,hx⟩:=y6 (show D.nb.length<l.length by omega);have hc:D.cst i=x:=by unfold Dic.cst;rw[hgl,getD_some hx]
 obtain⟨X,hX⟩:=ex (zI x);rw[hc,hX];have hrow:=tM D.fs i;have hsame:=oQ D.fs i;rw[hgl] at hrow hsame;cbv;refine WW 14 (.focus 1000003 30 (λ_=>i) rfl rfl (WF (by show i<(D.fs.map (enc cq)).length;rw[yN];exact hi))) (by cbv) ?_;cbv;refine⟨yD om om,?_⟩;refine YF om ?_;cbv;refine⟨yD om (by show (D.nb.length:Int)<(((D.fs.map (enc cq)).getD i []).length:Int);rw[hrow,zB];omega),?_⟩;refine WU hrow hx om hX ?_;cbv;refine mJ (ps':=⟨[(4,.ptr 4 0)],tO v r D p++[(4,.box (cR X))]⟩) (.trans (.unfocus 1000003 30 [] [] rfl rfl rfl ⟨rfl,rfl⟩) (.le okZ (by
  cbv
  repeat' first|exact trivial|exact lR|exact zC rfl|exact⟨by show (D.fs.map (enc cq)).set i ((D.fs.map (enc cq)).getD i [])=D.fs.map (enc cq);rw[hrow];exact hsame⟩|apply And.intro) rfl)) rfl
  okR (by rfl) okR ?_
 cbv;exact okA
def iB {l:List Nat}{i i':Nat}{x:Nat}{K:List PV->Prop}(h:l[i]?=some x)(hi:i'=i)(hK:K [iV x]):ElOk 1 (λ_=>enc ci l) (λ_=>i') K :=
 ⟨⟨ci x,rfl,rfl,by show (enc ci l)[i']?=_;rw[hi];unfold enc;rw[vH,h];rfl,hK⟩⟩
def DP:Pg.funcs[218]?=some Tryz.f218:=by rw[uM];rfl
def C0 (v r:Nat)(D:Dic)(p:Nat)(hl:D.ob.length=D.nb.length+1)(hn:D.nb.length<2^40)(hf:lfit (2^34) D.ob):Sound 218 [.ptr 1000000 0,zW 1000004 3 D.ob.length] (tO v r D p) [] (iV (ent v D.nb D.ob)) (tO v r D p) []:=by
 refine xR DP rfl rfl rfl rfl rfl ?_;obtain⟨E,hE⟩:=ex (ent v D.nb D.ob);rw[hE];cbv;refine zZ (σ:=Nat×Int) (λs=>⟨[(0,.ptr 1000000 0),(1,zW 1000004 3 D.ob.length),(5,iV s.2),(11,zW 1000002 1 D.nb.length),(12,iV D.nb.length),(13,iV s.1)],tO v r D p⟩)
  (λs=>s.1<=D.nb.length/\(s.2=-1\/∃ k:Nat,s.2=k/\k<s.1)/\E=WT v D.nb D.ob (D.nb.drop s.1) s.1 s.2) (λs=>D.nb.length-s.1)
  (0,-1) ⟨by omega,.inl rfl,by rw[<-hE];rfl⟩ (wkW) ?_
 intro s hs;obtain⟨j,b⟩:=s;obtain⟨g1,g2,g3⟩:=hs;dsimp only at g1 g2 g3;cbv;refine zH (λh=>?_) (λh=>?_)
 ·have hj:j<D.nb.length:=om;obtain⟨y,hy⟩:=y6 hj;obtain⟨c,hc⟩:=y6 (show j<D.ob.length by omega);have hd:D.nb.drop j=y::D.nb.drop (j+1):=by rw[YN hj];congr 1;rw[uZ hj] at hy;exact u9 hy
  (rw[hd,WT,getD_some hc] at g3;obtain⟨C,hC⟩:=ex (zI c);have fc:Fits (2^34) c:=hf c (z8 hc);have szC:C.sz (2^34):=by rw[<-hC];exact zX fc);have qC:C.q=c:=by rw[<-hC];exact z7 c
  (have csc:=s86 C (by have:=szC.n;omega);rw[qC] at csc;have hneg:yF c<0↔c<0:=by unfold yF;split <;> (try split) <;> constructor <;> intro _ <;> first|assumption|omega|(exfalso;omega)|grind);generalize yF c=sc at *
  (have cfr:=aG v r D p y;cbv;refine⟨yD om om,?_⟩;refine iB hy om ?_;cbv;refine kA id cfr ?_;cbv;have hle:j+1<=D.nb.length:=hj;have hmu:D.nb.length-(j+1)<D.nb.length-j:=by omega);have keepg:b=-1\/∃ k:Nat,b=k/\k<j+1:=by rcases g2 with g2|⟨k,g2,g2'⟩;{exact .inl g2};{exact .inr ⟨k,g2,Sq g2'⟩}
  have newg:((j:Nat):Int)=-1\/∃ k:Nat,((j:Nat):Int)=k/\k<j+1:=.inr ⟨j,rfl,GB j⟩;refine zU (λh1=>?_) (λh1=>?_);{cbv;refine⟨zF om om,?_⟩;cbv;exact⟨(j+1,b),⟨hle,keepg,g3.trans (by rw[if_neg om])⟩,hmu,wkW⟩};cbv;refine⟨yD om om,?_⟩;refine pV hc om hC ?_;cbv;refine cA csc ?_;cbv;refine zU (λh2=>?_) (λh2=>?_)
  rotate_left
  {cbv;refine⟨zF om om,?_⟩;cbv;exact⟨(j+1,b),⟨hle,keepg,g3.trans (by rw[if_neg (λq=>h2 (hneg.2 q.2.1))])⟩,hmu,wkW⟩};cbv;refine zU (λh3=>?_) (λh3=>?_);{cbv;refine⟨zF om om,?_⟩;cbv;exact⟨(j+1,(j:Int)),⟨hle,newg,g3.trans (by rw[if_pos ⟨om,hneg.1 h2,.inl h3⟩])⟩,hmu,wkW⟩};have h3':¬b<0:=h3;obtain⟨k,hk,hkj⟩:∃ k:Nat,b=k/\k<j:=by rcases g2 with g2|⟨k,g2,g2'⟩;{omega};{exact⟨k,g2,g2'⟩}
  subst hk;obtain⟨z,hz⟩:=y6 (show k<D.nb.length by omega);rw[kN,getD_some hz] at g3;cbv;refine⟨yD om om,?_⟩;refine iB hz om ?_;cbv;refine zH (λh4=>?_) (λh4=>?_);{cbv;refine⟨zF om om,?_⟩;cbv;exact⟨(j+1,(j:Int)),⟨hle,newg,g3.trans (by rw[if_pos ⟨om,hneg.1 h2,.inr om⟩])⟩,hmu,wkW⟩}
  ·(have hq:¬(v<=y/\c<0/\(((k:Nat):Int)<0\/y<z)):=λq=>by rcases q.2.2 with q|q;{omega};{exact h4 om});cbv;refine⟨zF om om,?_⟩;cbv;exact⟨(j+1,(k:Int)),⟨hle,keepg,g3.trans (by rw[if_neg hq])⟩,hmu,wkW⟩
 ·(have hj:j=D.nb.length:=by exact om);have hEb:b=E:=by rw[g3,hj,w5];rfl
  subst hEb;cbv;refine mJ (.refl _) rfl okR (by rfl) okR ?_;exact lR
def AU {ops:List Oper}{ps ps':PS}{K:PS->Prop}(k i0:Nat)(hw:Wk ps ps')(hd:fO ops k=true)(hm:KD ops k i0 []=true)(h:KC ops k i0 0 [] ps' K):DrawK ops ps K:=.st k i0 0 [] ps' hw hd hm h
def PN {l:List Nat}{i x:Nat}:(enc ci l).set i [D.int .i64 (x:Int)]=enc ci (l.set i x):=by rw[<-lK];rfl
def Mb {α:Type}{P L:List α}{i:Nat}{x:α}(hl:P.length=L.length)(hx:L[i]?=some x):(P.take i++L.drop i)[i]?=some x:=by
 have hi:=(wI.1 hx).1;have h1:(P.take i).length=i:=by rw[vG];omega
 rw[cO oM,h1,ZF,cK,t9];exact hx
def GH {α:Type}{P L:List α}{i:Nat}{x:α}(hl:P.length=L.length)(hx:P[i]?=some x):(P.take i++L.drop i).set i x=P.take (i+1)++L.drop (i+1):=by
 have hi:=(wI.1 hx).1;have h1:(P.take i).length=i:=by rw[vG];omega
 have h2:(P.take (i+1)).length=i+1:=by rw[vG];omega
 apply Vu;intro j;rw[bH];by_cases hj:i=j;{subst hj;rw[if_pos rfl,if_pos (by rw[vE,h1,mI];omega),aB oM,u5 oM];exact hx.symm};{rw[if_neg hj];by_cases hlt:j<i;{rw[aB oM,aB oM,u5 hlt,u5 oM]};{rw[cO oM,cO oM,h1,h2,cK,cK];congr 1;omega}}
def p9 (n:Nat):List.replicate n [D.bool false,D.sl [],D.sl []]=enc cq (List.replicate n 0):=by
 have h:xC (cq 0)=[D.bool false,D.sl [],D.sl []]:=by
  (have:zI 0=⟨false,[],[]⟩:=by unfold zI;simp[yY]);unfold cq
  rw[this];rfl
 unfold enc;rw[List.map_replicate,h]
def Ph {G:List Rat}{n i:Nat}(hn:G.length=n)(hi:i<n):(G.take i++List.replicate (n-i) 0)[i]?=some 0:=by
 have h1:(G.take i).length=i:=by rw[vG];omega
 rw[cO oM,h1,ZF,Kg,if_pos oM]
def JN {G:List Rat}{n i:Nat}{x:Rat}(hn:G.length=n)(hx:G[i]?=some x):(G.take i++List.replicate (n-i) 0).set i x=G.take (i+1)++List.replicate (n-(i+1)) 0:=by
 have hi:=(wI.1 hx).1;have h1:(G.take i).length=i:=by rw[vG];omega
 have h2:(G.take (i+1)).length=i+1:=by rw[vG];omega
 apply Vu;intro j;rw[bH];by_cases hj:i=j;{subst hj;rw[if_pos rfl,if_pos (by simp;omega),aB oM,u5 oM];exact hx.symm}
 ·rw[if_neg hj];by_cases hlt:j<i;{rw[aB oM,aB oM,u5 hlt,u5 oM]}
  ·(rw[cO oM,cO oM,h1,h2,Kg,Kg];have e1:j-i<n-i↔j-(i+1)<n-(i+1):=by omega);by_cases h:j-i<n-i
   {rw[if_pos h,if_pos (e1.1 h)]};{rw[if_neg h,if_neg (λq=>h (e1.2 q))]}
def KP (v r0 : Nat) (D : Dic) (p r e : Nat) (hw : D.wf) (hr : r < D.bs.length) (he : e < D.nb.length) (h0 : D.at r e ≠ 0) (hp : p < 2^40) (hn : D.nb.length < 2^30) (hb : D.bs.length < 2^30) (hf : D.fit (2^30)) :
    Sound 207 [.ptr 1000000 0, iV r, iV e] (tO v r0 D p) [] (.tup []) (tO v r0 (D.piv r e) (p + 1)) [] := by
  refine sF Tryz.f207 ?_
  have hlf := hw.len
  obtain ⟨old, hold⟩ := y6 (l := D.fs) (i := r) oM
  have hol := hw.row r old hold
  have hgo : D.fs.getD r [] = old := getD_some hold
  obtain ⟨o, ho⟩ := y6 (show e < old.length by omega)
  have hgoe : old.getD e 0 = o := getD_some ho
  have ho0 : o ≠ 0 := by rw [← hgoe, ← hgo]; exact h0
  obtain ⟨b, hbr⟩ := y6 hr
  obtain ⟨y, hye⟩ := y6 he
  have fold : lfit (2^30) old := hf.fs old (z8 hold)
  have fo := fold o (z8 ho)
  obtain ⟨O, hO⟩ := ex (zI o)
  have szO : O.sz (2^30) := by rw [← hO]; exact zX fo
  have qO : O.q = o := by rw [← hO]; exact z7 o
  obtain ⟨F, hF⟩ := ex (kG old e)
  have hFl : F.length = D.nb.length + 1 := by rw [← hF, pK, hol]
  have hrow := tM D.fs r
  rw [hgo] at hrow
  obtain ⟨D', hD'⟩ := ex (D.piv r e)
  rw [hD']
  cbv
  refine ⟨zF om om, ?_⟩
  cbv
  refine ⟨yD om om, ?_⟩
  refine ⟨_, .focus 1000003 30 (fun _ => r) rfl rfl (WF (by show r < (D.fs.map (enc cq)).length; rw [yN]; omega)), ?_⟩
  cbv
  refine YF om ?_
  cbv
  have hoL : ((D.fs.map (enc cq)).getD r []).length = old.length := by rw [hrow, zB]
  refine ⟨z3 om (by rw [hoL]; exact om), uW om om, ?_⟩
  obtain ⟨Z, hZ⟩ := ex (zI 0)
  obtain ⟨G, hG⟩ : ∃ G, (old.map fun c => -c / o).set e 0 = G := ⟨_, rfl⟩
  have hGl : G.length = old.length := by rw [← hG, cL, yN]
  have hGF : G.set e (1 / o) = F := by rw [← hG, ← hF, List.set_set]; unfold kG; rw [hgoe]
  refine zZ (σ := Nat × List Rat) (fun s => ⟨[(0, .ptr 1000000 0), (1, iV r), (2, iV e), (6, zW 30 3 old.length), (7, zW 27 3 old.length), (28, zW 30 3 old.length), (29, iV old.length), (30, iV s.1)],
      [(1000000, .box [iV v, iV r0, zW 1000001 1 D.bs.length, zW 1000002 1 D.nb.length, zW 1000003 1 D.fs.length, zW 1000004 3 D.ob.length, iV (((p + 1 : Nat) : Int))]),
       (1000001, z5 1 (enc ci D.bs)), (1000002, z5 1 (enc ci D.nb)), (1000003, .mat 3 (fun _ => D.fs.map (enc cq)) [(zW 30 3 old.length, fun _ => r)]), (1000004, z5 3 (enc cq D.ob)), (30, z5 3 (enc cq old)), (27, z5 3 (enc cq s.2))]⟩)
    (fun s => s.1 ≤ old.length ∧ s.2 = G.take s.1 ++ List.replicate (old.length - s.1) 0) (fun s => old.length - s.1)
    (0, List.replicate old.length 0) ⟨by omega, by simp⟩ (.le (by cbv; repeat' first | exact trivial | exact lR | exact zR rfl (by first | rfl | exact hoL | (show Int.toNat _ = _; rw [hoL]; rfl)) | exact zG (by rw [hoL]) | exact zG om | apply And.intro) (by
      cbv
      repeat' first | exact trivial | exact lR | exact zC rfl | exact zG om | exact ⟨rfl⟩ | exact zR rfl hoL | exact zC hrow | exact zC (by show List.replicate (Int.toNat _) _ = _; rw [hoL]; exact p9 _) | apply And.intro) rfl) ?_
  intro s hs
  obtain ⟨j, m⟩ := s
  obtain ⟨g1, g2⟩ := hs
  dsimp only at g1 g2
  cbv
  refine zH (fun h => ?_) (fun h => ?_)
  · have hj : j < old.length := om
    obtain ⟨c, hc⟩ := y6 hj
    have fc := fold c (z8 hc)
    obtain ⟨C, hC⟩ := ex (zI c)
    have szC : C.sz (2^30) := by rw [← hC]; exact zX fc
    have qC : C.q = c := by rw [← hC]; exact z7 c
    have csc := s86 C (by have := szC.n; omega)
    rw [qC] at csc
    obtain ⟨N, hN⟩ := ex (zI (-c))
    have fn : Fits (2^30) (-c) := bT fc
    have szN : N.sz (2^30) := by rw [← hN]; exact zX fn
    have qN : N.q = -c := by rw [← hN]; exact z7 _
    have cn := PP C (szC.mono (by decide))
    rw [qC, hN] at cn
    obtain ⟨W, hW⟩ := ex (zI (-c / o))
    have cd := C5 N O (szN.mono (by decide)) (szO.mono (by decide)) (by rw [qO]; exact ho0)
    rw [qN, qO, hW] at cd
    have hmj : m[j]? = some 0 := by rw [g2]; exact Ph hGl hj
    have hGe : j = e → G[j]? = some 0 := fun q => by rw [← hG, q, bH, if_pos rfl, if_pos (by rw [yN]; omega)]
    have hGn : j ≠ e → G[j]? = some (-c / o) := fun q => by rw [← hG, bH, if_neg (fun h => q h.symm), vH, hc]; rfl
    have hst0 : j = e ∨ c = 0 → m = G.take (j + 1) ++ List.replicate (old.length - (j + 1)) 0 := fun q => by
      have hg : G[j]? = some 0 := by
        by_cases q2 : j = e
        · exact hGe q2
        · rw [hGn q2, q.resolve_left q2]; congr 1; rw [GA, nS, Gz]
      have := JN hGl hg
      rw [← g2, mQ hmj] at this
      exact this
    have hst : j ≠ e → m.set j (-c / o) = G.take (j + 1) ++ List.replicate (old.length - (j + 1)) 0 := fun q => by rw [g2]; exact JN hGl (hGn q)
    have hle : j + 1 ≤ old.length := hj
    have hmu : old.length - (j + 1) < old.length - j := by omega
    have hsg : yF c = 0 → c = 0 := fun h => sH.1 h
    generalize yF c = sc at *
    cbv
    refine ⟨yD om om, ?_⟩
    refine pV hc om hC ?_
    cbv
    refine zU (fun h1 => ?_) (fun h1 => ?_)
    · cbv
      refine ⟨zF om om, ?_⟩
      cbv
      exact ⟨(j + 1, m), ⟨hle, hst0 (.inl om)⟩, hmu, wkW⟩
    cbv
    refine cA csc ?_
    cbv
    refine zH (fun h2 => ?_) (fun h2 => ?_)
    · cbv
      refine ⟨zF om om, ?_⟩
      cbv
      exact ⟨(j + 1, m), ⟨hle, hst0 (.inr (hsg h2))⟩, hmu, wkW⟩
    cbv
    refine QX 14 13 (by cbv) (by cbv) ?_
    cbv
    refine dA cn ?_
    cbv
    refine ⟨yD om om, ?_⟩
    refine pV ho om hO ?_
    cbv
    refine dA cd ?_
    cbv
    refine ⟨yD om om, ?_⟩
    refine pV hmj om hZ ?_
    cbv
    refine ⟨zF om om, ?_⟩
    cbv
    exact ⟨(j + 1, m.set j (-c / o)), ⟨hle, hst om⟩, hmu, .le okZ (by
      cbv
      repeat' first | exact trivial | exact lR | exact zC rfl | exact ⟨rfl⟩ | exact zC (by show (enc cq m).set (0 + j) _ = enc cq (m.set j (-c / o)); rw [vF]; exact iH hW) | apply And.intro) rfl⟩
  · have hj : j = old.length := by exact om
    have hm : m = G := by rw [g2, hj, ← hGl, v6, ZF]; simp
    subst hm
    obtain ⟨U, hU⟩ := ex (zI ((1 : Int) : Rat))
    have c1 := HP 1 (by decide) (by decide)
    rw [hU] at c1
    have qU : U.q = 1 := by rw [← hU]; exact z7 _
    have szU : U.sz (2^30) := by rw [← hU]; exact zX (fits_one.mono (by decide))
    obtain ⟨V, hV⟩ := ex (zI (1 / o))
    have cd := C5 U O (szU.mono (by decide)) (szO.mono (by decide)) (by rw [qO]; exact ho0)
    rw [qU, qO, hV] at cd
    have hme : m[e]? = some 0 := by rw [← hG, bH, if_pos rfl, if_pos (by rw [yN]; omega)]
    cbv
    refine QX 13 12 (by cbv) (by cbv) ?_
    cbv
    refine dA c1 ?_
    cbv
    refine ⟨yD om om, ?_⟩
    refine pV ho om hO ?_
    cbv
    refine dA cd ?_
    cbv
    refine ⟨yD om om, ?_⟩
    refine pV hme om hZ ?_
    cbv
    refine AU (ps' := ⟨[(0, .ptr 1000000 0), (1, iV r), (2, iV e), (7, zW 27 3 F.length)],
      [(1000000, .box [iV v, iV r0, zW 1000001 1 D.bs.length, zW 1000002 1 D.nb.length, zW 1000003 1 D.fs.length, zW 1000004 3 D.ob.length, iV (((p + 1 : Nat) : Int))]),
       (1000001, z5 1 (enc ci D.bs)), (1000002, z5 1 (enc ci D.nb)), (1000003, .mat 3 (fun _ => D.fs.map (enc cq)) [(zW 30 3 old.length, fun _ => r)]), (1000004, z5 3 (enc cq D.ob)), (30, z5 3 (enc cq old)), (27, z5 3 (enc cq F))]⟩) 26 25
      (.le (by cbv; repeat' first | exact trivial | exact lR | exact zR rfl oM | apply And.intro) (by
        cbv
        repeat' first | exact trivial | exact lR | exact zC rfl | exact ⟨rfl⟩ | exact zC (by show (enc cq m).set (0 + e) _ = enc cq F; rw [vF, ← hGF]; exact iH hV) | apply And.intro) rfl) (by cbv) (by cbv) ?_
    cbv
    refine ⟨yD om om, ?_⟩
    refine iB hye om ?_
    cbv
    refine ⟨yD om om, ?_⟩
    refine iB hbr om ?_
    cbv
    refine ⟨yD om om, ?_⟩
    refine iB hbr om ?_
    cbv
    refine ⟨yD om om, ?_⟩
    refine iB hye om ?_
    cbv
    obtain ⟨P, hP⟩ : ∃ P, (mK r e F 0 D.fs).set r old = P := ⟨_, rfl⟩
    have hPl : P.length = D.fs.length := by rw [← hP, cL, o6]
    have hfF : lfit (2^32) F := by rw [← hF]; exact (Ul (by decide) fold).mono (by decide)
    refine zZ (σ := Nat × List (List Rat)) (fun s => ⟨[(0, .ptr 1000000 0), (1, iV r), (2, iV e), (7, zW 27 3 F.length), (99, iV D.fs.length), (100, iV s.1)],
        [(1000000, .box [iV v, iV r0, zW 1000001 1 D.bs.length, zW 1000002 1 D.nb.length, zW 1000003 1 D.fs.length, zW 1000004 3 D.ob.length, iV (((p + 1 : Nat) : Int))]),
         (1000001, z5 1 (enc ci (D.bs.set r y))), (1000002, z5 1 (enc ci (D.nb.set e b))), (1000003, .mat 3 (fun _ => s.2.map (enc cq)) [(zW 30 3 old.length, fun _ => r)]), (1000004, z5 3 (enc cq D.ob)), (30, z5 3 (enc cq old)), (27, z5 3 (enc cq F))]⟩)
      (fun s => s.1 ≤ D.fs.length ∧ s.2 = P.take s.1 ++ D.fs.drop s.1) (fun s => D.fs.length - s.1)
      (0, D.fs) ⟨by omega, by simp⟩ (.le okZ (by
        cbv
        repeat' first | exact trivial | exact lR | exact zC rfl | exact ⟨rfl⟩ | exact zC (by show (enc ci D.bs).set (0 + r) _ = _; rw [vF]; exact PN) | exact zC (by show (enc ci D.nb).set (0 + e) _ = _; rw [vF]; exact PN) | apply And.intro) rfl) ?_
    intro s hs
    obtain ⟨i, M⟩ := s
    obtain ⟨k1, k2⟩ := hs
    dsimp only at k1 k2
    cbv
    refine zH (fun hh => ?_) (fun hh => ?_)
    · have hi : i < D.fs.length := om
      obtain ⟨l, hl⟩ := y6 hi
      have hll := hw.row i l hl
      have hMl : M.length = D.fs.length := by rw [k2, vE, vG, mI]; omega
      have hMi : M[i]? = some l := by rw [k2]; exact Mb hPl hl
      obtain ⟨S, hS⟩ := ex (sbs l e F)
      have csub := CU l F e oM oM oM ((hf.fs l (z8 hl)).mono (by decide)) hfF
      rw [hS] at csub
      have hPi : i ≠ r → P[i]? = some S := fun q => by rw [← hP, bH, if_neg (fun h => q h.symm), bQ, hl, vF]; simp [q, hS]
      have hPr : i = r → P[i]? = some l := fun q => by
        subst q
        rw [← hP, bH, if_pos rfl, if_pos (by rw [o6]; omega)]
        rw [hold] at hl
        exact hl
      have hle : i + 1 ≤ D.fs.length := hi
      have hmu : D.fs.length - (i + 1) < D.fs.length - i := by omega
      have hstr : i = r → M = P.take (i + 1) ++ D.fs.drop (i + 1) := fun q => by
        have := GH hPl (hPr q)
        rw [← k2, mQ hMi] at this
        exact this
      have hst : i ≠ r → M.set i S = P.take (i + 1) ++ D.fs.drop (i + 1) := fun q => by rw [k2]; exact GH hPl (hPi q)
      have hSl : S.length = l.length := by rw [← hS, YZ]
      have hrowi := tM M i
      rw [getD_some hMi] at hrowi
      cbv
      refine zH (fun h5 => ?_) (fun h5 => ?_)
      · cbv
        refine ⟨zF om om, ?_⟩
        cbv
        exact ⟨(i + 1, M), ⟨hle, hstr om⟩, hmu, wkW⟩
      cbv
      refine ⟨yD om om, ?_⟩
      refine ⟨_, .focus 1000003 31 (fun _ => i) rfl rfl (Pe (by show i < (M.map (enc cq)).length; rw [yN]; omega) (by show r ≠ i; exact om)), ?_⟩
      cbv
      refine YF om ?_
      cbv
      have hril : ((M.map (enc cq)).getD i []).length = l.length := by rw [hrowi, zB]
      refine YK (ps' := ⟨[(0, .ptr 1000000 0), (1, iV r), (2, iV e), (7, zW 27 3 F.length), (99, iV D.fs.length), (100, iV i), (112, zW 31 3 l.length), (113, iV e), (114, zW 27 3 F.length)],
        [(1000000, .box [iV v, iV r0, zW 1000001 1 D.bs.length, zW 1000002 1 D.nb.length, zW 1000003 1 D.fs.length, zW 1000004 3 D.ob.length, iV (((p + 1 : Nat) : Int))]),
         (1000001, z5 1 (enc ci (D.bs.set r y))), (1000002, z5 1 (enc ci (D.nb.set e b))), (1000003, .mat 3 (fun _ => M.map (enc cq)) [(zW 31 3 l.length, fun _ => i), (zW 30 3 old.length, fun _ => r)]), (1000004, z5 3 (enc cq D.ob)), (30, z5 3 (enc cq old)), (27, z5 3 (enc cq F)), (31, z5 3 (enc cq l))]⟩) (fun n => match nqb n 1000001 with | true => 31 | false => 27)
        (.le (by cbv; repeat' first | exact trivial | exact lR | exact zR rfl hril | apply And.intro) (by
          cbv
          repeat' first | exact trivial | exact lR | exact zC rfl | exact ⟨rfl⟩ | exact zR rfl hril | exact zC hrowi | apply And.intro) rfl) rfl okA csub okR rfl rfl rfl rfl rfl rfl rfl rfl ?_
      cbv
      refine ⟨zF om om, ?_⟩
      cbv
      refine ⟨(i + 1, M.set i S), ⟨hle, hst om⟩, hmu, .trans (.unfocus 1000003 31 [] [(zW 30 3 old.length, fun _ => r)] rfl rfl rfl ⟨rfl, by show l.length = (enc cq S).length; rw [zB, hSl]⟩) (.le okZ (by
        cbv
        repeat' first | exact trivial | exact lR | exact zC rfl | exact ⟨rfl⟩ | exact ⟨by show (M.map (enc cq)).set i (enc cq S) = (M.set i S).map (enc cq); exact map_set _ _ _⟩ | apply And.intro) rfl)⟩
    · have hi : i = D.fs.length := by exact om
      have hM : M = P := by rw [k2, hi, w5, uT, ← hPl, v6]
      obtain ⟨T, hT⟩ := ex (sbs D.ob e F)
      have hwo := hw.ob
      have csub := CU D.ob F e oM oM oM (hf.ob.mono (by decide)) hfF
      rw [hT] at csub
      have hPM : M.set r F = mK r e F 0 D.fs := by
        rw [hM, ← hP, List.set_set]
        refine mQ ?_
        rw [bQ, hold, vF]
        simp
      have hDD : D' = ⟨D.bs.set r y, D.nb.set e b, M.set r F, T⟩ := by
        rw [← hD', hPM]
        unfold Dic.piv
        simp only [hgo, hF, getD_some hye, getD_some hbr, hT]
      have hTl : T.length = D.ob.length := by rw [← hT, YZ]
      have hMl : M.length = D.fs.length := by rw [hM, hPl]
      have q1 : D'.bs = D.bs.set r y := by rw [hDD]
      have q2 : D'.nb = D.nb.set e b := by rw [hDD]
      have q3 : D'.fs = M.set r F := by rw [hDD]
      have q4 : D'.ob = T := by rw [hDD]
      clear hDD
      cbv
      refine kA (fun n => match nqb n 1000001 with | true => 1000004 | false => 27) csub ?_
      cbv
      refine ⟨yD om om, ?_⟩
      refine Ev om ?_
      cbv
      refine mJ (ps' := ⟨[], tO v r0 D' (p + 1)⟩) (.trans (.unfocus 1000003 27 [] [] rfl rfl rfl ⟨rfl, by show F.length = (enc cq F).length; rw [zB]⟩) (.le okZ (by
        cbv
        repeat' first | exact trivial | exact lR | exact zC rfl | exact ⟨rfl⟩ | exact zR rfl (by first | (rw [q1, cL]; done) | (rw [q2, cL]; done) | (rw [q3, cL, hMl]; done) | (rw [q4]; exact hTl.symm)) | exact zC (by rw [q1]) | exact zC (by rw [q2]) | exact zC (by rw [q4]) | exact ⟨by show (M.map (enc cq)).set r (enc cq F) = D'.fs.map (enc cq); rw [q3]; exact map_set _ _ _⟩ | apply And.intro) rfl)) rfl
        okR (by rfl) okR ?_
      exact trivial
def tH (v r : Nat) (D : Dic) (p i : Nat) : List (Nat × Obj') :=
  [(1000000, .box [iV v, iV r, zW 1000001 1 D.bs.length, zW 1000002 1 D.nb.length, zW 1000003 1 D.fs.length, zW 1000004 3 D.ob.length, iV p]),
   (1000001, z5 1 (enc ci D.bs)), (1000002, z5 1 (enc ci D.nb)), (1000003, .mat 3 (fun _ => D.fs.map (enc cq)) [(zW 1000005 3 (((D.fs.map (enc cq)).getD i []).length), fun _ => i)]), (1000004, z5 3 (enc cq D.ob)), (1000005, z5 3 ((D.fs.map (enc cq)).getD i []))]
def Dr (v r:Nat)(D:Dic)(p:Nat)(i:Nat)(hw:D.wf)(hi:i<D.fs.length)(hn:D.nb.length<2^40):Sound 208 [.ptr 1000000 0,iV i] (tH v r D p i) [] (rv (zI (D.cst i))) (tH v r D p i) []:=by
 refine xR UB rfl rfl rfl rfl rfl ?_;obtain⟨l,hl⟩:=y6 hi;have hlen:=hw.row i l hl;have hgl:D.fs.getD i []=l:=getD_some hl;obtain⟨x,hx⟩:=y6 (show D.nb.length<l.length by omega);have hc:D.cst i=x:=by unfold Dic.cst;rw[hgl,getD_some hx]
 obtain⟨X,hX⟩:=ex (zI x);rw[hc,hX];have hrow:=tM D.fs i;rw[hgl] at hrow;cbv;refine zP 14 (by cbv) ?_;cbv;refine⟨yD om om,?_⟩;refine YF om ?_;cbv;refine⟨yD om (by show (D.nb.length:Int)<(((D.fs.map (enc cq)).getD i []).length:Int);rw[hrow,zB];omega),?_⟩;refine WU hrow hx om hX ?_;cbv;refine mJ (.refl _) rfl
  okR (by rfl) okR ?_
 cbv;exact okA
def CY (v r:Nat)(D:Dic)(p e:Nat)(hw:D.wf)(he:e<D.nb.length)(hn:D.nb.length<2^30)(hb:D.bs.length<2^30)(hf:D.fit (2^30)):Sound 219 [.ptr 1000000 0,iV e] (tO v r D p) [] (iV (lvR v e D)) (tO v r D p) []:=by
 refine sF Tryz.f219 ?_;have hlf:=hw.len;obtain⟨E,hE⟩:=ex (lvR v e D);rw[hE];cbv;refine zZ (σ:=Nat×Int×Rat×R) (λs=>⟨[(0,.ptr 1000000 0),(1,iV e),(5,iV s.2.1),(6,.ptr 6 0),(15,zW 1000001 1 D.bs.length),(16,iV D.bs.length),(17,iV s.1)],tO v r D p++[(6,.box (cR s.2.2.2))]⟩)
  (λs=>s.1<=D.bs.length/\(s.2.1=-1\/∃ k:Nat,s.2.1=k/\k<s.1)/\Fits (2^31) s.2.2.1/\zI s.2.2.1=s.2.2.2/\E=QA v e D (D.bs.drop s.1) s.1 s.2.1 s.2.2.1) (λs=>D.bs.length-s.1)
  (0,-1,0,⟨false,[],[]⟩) ⟨by omega,.inl rfl,xT (by decide),by unfold zI;simp[yY],by rw[<-hE];rfl⟩ (wkW) ?_
 intro s hs;obtain⟨i,b,q,Q⟩:=s;obtain⟨g1,g2,g3,g4,g5⟩:=hs;dsimp only at g1 g2 g3 g4 g5;cbv;refine zH (λh=>?_) (λh=>?_)
 ·(have hi:i<D.bs.length:=om;obtain⟨y,hy⟩:=y6 hi;obtain⟨l,hl⟩:=y6 (show i<D.fs.length by omega);have hll:=hw.row i l hl;have hgl:D.fs.getD i []=l:=getD_some hl;have hrow:=tM D.fs i;have hsame:=oQ D.fs i;rw[hgl] at hrow hsame;obtain⟨a,ha⟩:=y6 (show e<l.length by omega);have hat:D.at i e=a:=by unfold Dic.at;rw[hgl,getD_some ha]);obtain⟨x,hx⟩:=y6 (show D.nb.length<l.length by omega)
  (have hcs:D.cst i=x:=by unfold Dic.cst;rw[hgl,getD_some hx]);have hd:D.bs.drop i=y::D.bs.drop (i+1):=by rw[YN hi];congr 1;rw[uZ hi] at hy;exact u9 hy
  (rw[hd,QA,hat,hcs] at g5;have fl:=hf.fs l (z8 hl);have fa:Fits (2^30) a:=fl a (z8 ha);have fx:Fits (2^30) x:=fl x (z8 hx);obtain⟨A,hA⟩:=ex (zI a);obtain⟨X,hX⟩:=ex (zI x);have szA:A.sz (2^30):=by rw[<-hA];exact zX fa);have szX:X.sz (2^30):=by rw[<-hX];exact zX fx
  (have qA:A.q=a:=by rw[<-hA];exact z7 a);have qX:X.q=x:=by rw[<-hX];exact z7 x
  (have csa:=s86 A (by have:=szA.n;omega);rw[qA] at csa;have hneg:yF a<0↔a<0:=by unfold yF;split <;> (try split) <;> constructor <;> intro _ <;> first|assumption|omega|(exfalso;omega)|grind);obtain⟨N,hN⟩:=ex (zI (-a))
  (have fn:Fits (2^30) (-a):=bT fa;have szN:N.sz (2^30):=by rw[<-hN];exact zX fn);have qN:N.q=-a:=by rw[<-hN];exact z7 _
  (have cn:=PP A (szA.mono (by decide));rw[qA,hN] at cn;have cfr:=aG v r D p y;have cco:=Dr v r D p i hw oM oM;rw[hcs,hX] at cco;have hle:i+1<=D.bs.length:=hi;have hmu:D.bs.length-(i+1)<D.bs.length-i:=by omega);have keepg:b=-1\/∃ k:Nat,b=k/\k<i+1:=by rcases g2 with g2|⟨k,g2,g2'⟩;{exact .inl g2};{exact .inr ⟨k,g2,Sq g2'⟩}
  have newg:((i:Nat):Int)=-1\/∃ k:Nat,((i:Nat):Int)=k/\k<i+1:=.inr ⟨i,rfl,GB i⟩;generalize hsa:yF a=sa at *;cbv;refine⟨yD om om,?_⟩;refine iB hy om ?_;cbv;refine kA id cfr ?_;cbv;refine zU (λh1=>?_) (λh1=>?_);{cbv;refine⟨zF om om,?_⟩;cbv;exact⟨(i+1,b,q,Q),⟨hle,keepg,g3,g4,g5.trans (by rw[if_neg om])⟩,hmu,wkW⟩};cbv;refine⟨yD om om,?_⟩;refine⟨_,.focus 1000003 31 (λ_=>i) rfl rfl (WF (by show i<(D.fs.map (enc cq)).length;rw[yN];omega)),?_⟩;cbv;refine YF om ?_;cbv;refine⟨yD om (by show (e:Int)<(((D.fs.map (enc cq)).getD i []).length:Int);rw[hrow,zB];omega),?_⟩;refine WU hrow ha om hA ?_;cbv;refine cA csa ?_;cbv;refine zH (λh2=>?_) (λh2=>?_);{cbv;refine⟨zF om om,?_⟩;cbv;exact⟨(i+1,b,q,Q),⟨hle,keepg,g3,g4,g5.trans (by rw[if_neg (λq=>by have:=hneg.2 q.2;omega)])⟩,hmu,.trans (.unfocus 1000003 31 [] [] rfl rfl rfl ⟨rfl,rfl⟩) (.le okZ (by cbv;repeat' first|exact trivial|exact lR|exact zC rfl|exact⟨by show (D.fs.map (enc cq)).set i ((D.fs.map (enc cq)).getD i [])=D.fs.map (enc cq);rw[hrow];exact hsame⟩|exact zG om|apply And.intro) rfl)⟩}
  (cbv;have ha0:a<0:=hneg.1 (by exact om);have hna:-a≠0:=by grind);rw[if_pos ⟨om,ha0⟩] at g5
  (obtain⟨t,ht⟩:=ex (x / -a);have ft:Fits (2^31) t:=by rw[<-ht];exact (WG fx fn).mono (by decide));obtain⟨W,hW⟩:=ex (zI t)
  (have cd:=C5 X N (szX.mono (by decide)) (szN.mono (by decide)) (by rw[qN];exact hna);rw[qX,qN,ht,hW] at cd;rw[ht] at g5;have szW:W.sz (2^31):=by rw[<-hW];exact zX ft);have szQ:Q.sz (2^31):=by rw[<-g4];exact zX g3
  (have qW:W.q=t:=by rw[<-hW];exact z7 _);have qQ:Q.q=q:=by rw[<-g4];exact z7 _
  (have ccm:=ME Q W (szQ.mono (by decide)) (szW.mono (by decide));rw[qQ,qW] at ccm;have hc1:wN q t > 0↔t<q:=by unfold wN;split <;> (try split) <;> constructor <;> intro _ <;> first|assumption|omega|(exfalso;omega)|grind);have hc0:wN q t=0↔t=q:=by unfold wN;split <;> (try split) <;> constructor <;> intro _ <;> first|assumption|omega|(exfalso;omega)|grind
  generalize hcm:wN q t=cm at *;refine uI 20 [(19,9)] (by cbv) (by cbv) (by cbv) ?_;cbv;refine bL Og okA cco okR rfl rfl rfl rfl rfl rfl ?_;cbv;refine⟨yD om om,?_⟩;refine YF om ?_;cbv;refine⟨yD om (by show (e:Int)<(((D.fs.map (enc cq)).getD i []).length:Int);rw[hrow,zB];omega),?_⟩;refine WU hrow ha om hA ?_;cbv;refine dA cn ?_;cbv;refine dA cd ?_;cbv;refine zH (λh3=>?_) (λh3=>?_)
  ·(obtain⟨k,hk,hki⟩:∃ k:Nat,b=k/\k<i:=by rcases g2 with g2|⟨k,g2,g2'⟩;{exact absurd h3 (by show ¬(0:Int)<=b;omega)};{exact⟨k,g2,g2'⟩});subst hk;obtain⟨z,hz⟩:=y6 (show k<D.bs.length by omega);rw[kN,getD_some hz] at g5;cbv;refine cA ccm ?_;cbv;refine zU (λh4=>?_) (λh4=>?_)
   {cbv;refine zP 3 (by cbv) ?_;cbv;refine⟨zF om om,?_⟩;cbv;exact⟨(i+1,(i:Int),t,W),⟨hle,newg,ft,hW,g5.trans (by rw[if_pos (.inr (.inl (hc1.1 h4)))])⟩,hmu,.trans (.unfocus 1000003 31 [] [] rfl rfl rfl ⟨rfl,rfl⟩) (.le okZ (by cbv;repeat' first|exact trivial|exact lR|exact zC rfl|exact⟨by show (D.fs.map (enc cq)).set i ((D.fs.map (enc cq)).getD i [])=D.fs.map (enc cq);rw[hrow];exact hsame⟩|exact zG om|apply And.intro) rfl)⟩};cbv;refine zU (λh5=>?_) (λh5=>?_);{cbv;refine⟨yD om om,?_⟩;refine iB hz om ?_;cbv;refine zH (λh6=>?_) (λh6=>?_);{cbv;refine zP 3 (by cbv) ?_;cbv;refine⟨zF om om,?_⟩;cbv;exact⟨(i+1,(i:Int),t,W),⟨hle,newg,ft,hW,g5.trans (by rw[if_pos (.inr (.inr ⟨hc0.1 h5,om⟩))])⟩,hmu,.trans (.unfocus 1000003 31 [] [] rfl rfl rfl ⟨rfl,rfl⟩) (.le okZ (by cbv;repeat' first|exact trivial|exact lR|exact zC rfl|exact⟨by show (D.fs.map (enc cq)).set i ((D.fs.map (enc cq)).getD i [])=D.fs.map (enc cq);rw[hrow];exact hsame⟩|exact zG om|apply And.intro) rfl)⟩};{cbv;refine⟨zF om om,?_⟩;cbv;exact⟨(i+1,(k:Int),q,Q),⟨hle,keepg,g3,g4,g5.trans (by rw[if_neg (λw=>w.elim (λw=>absurd w (Int.not_lt.2 (rB _))) (λw=>w.elim (λw=>h4 (hc1.2 w)) (λw=>h6 (by have:=w.2;exact om))))])⟩,hmu,.trans (.unfocus 1000003 31 [] [] rfl rfl rfl ⟨rfl,rfl⟩) (.le okZ (by cbv;repeat' first|exact trivial|exact lR|exact zC rfl|exact⟨by show (D.fs.map (enc cq)).set i ((D.fs.map (enc cq)).getD i [])=D.fs.map (enc cq);rw[hrow];exact hsame⟩|exact zG om|apply And.intro) rfl)⟩}};{cbv;refine⟨zF om om,?_⟩;cbv;exact⟨(i+1,(k:Int),q,Q),⟨hle,keepg,g3,g4,g5.trans (by rw[if_neg (λw=>w.elim (λw=>absurd w (Int.not_lt.2 (rB _))) (λw=>w.elim (λw=>h4 (hc1.2 w)) (λw=>h5 (hc0.2 w.1))))])⟩,hmu,.trans (.unfocus 1000003 31 [] [] rfl rfl rfl ⟨rfl,rfl⟩) (.le okZ (by cbv;repeat' first|exact trivial|exact lR|exact zC rfl|exact⟨by show (D.fs.map (enc cq)).set i ((D.fs.map (enc cq)).getD i [])=D.fs.map (enc cq);rw[hrow];exact hsame⟩|exact zG om|apply And.intro) rfl)⟩}
  ·(have h3':b<0:=by have:=h3;dsimp only at this;omega);cbv
   refine wO (by decide) ?_;cbv;refine zP 3 (by cbv) ?_;cbv;refine⟨zF om om,?_⟩;cbv;exact⟨(i+1,(i:Int),t,W),⟨hle,newg,ft,hW,g5.trans (by rw[if_pos (.inl h3')])⟩,hmu,.trans (.unfocus 1000003 31 [] [] rfl rfl rfl ⟨rfl,rfl⟩) (.le okZ (by cbv;repeat' first|exact trivial|exact lR|exact zC rfl|exact⟨by show (D.fs.map (enc cq)).set i ((D.fs.map (enc cq)).getD i [])=D.fs.map (enc cq);rw[hrow];exact hsame⟩|exact zG om|apply And.intro) rfl)⟩
 ·(have hi:i=D.bs.length:=by exact om);have hEb:b=E:=by rw[g5,hi,w5];rfl
  subst hEb;cbv;refine mJ (.refl _) rfl okR (by rfl) okR ?_;exact lR


def pG {rs:List ResultVar}{r:PV}{ps ps':PS}{kept made:List (Nat×Obj')}(h:Nat->Nat)(hw:Wk ps ps')(h3:lv r=true)(h4:uH h ps'.objs (kept++made))(h5:ndO (yC h (kept++made))=true)(h6:Z6 h kept)(hr:match cE ps' rs with
  |some l=>les (mZ l) (ren h r)| none=>False):RetOk rs r kept made ps:=by
 cases h1:cE ps' rs with
 |none=>rw[h1] at hr;exact hr.elim| some l=>rw[h1] at hr;exact⟨ps',l,h,hw,h1,bB hr,h3,h4,h5,h6⟩
def Jz:Pg.funcs[112]?=some Tryz.f112:=by rw[uM];rfl
def Kz:ty 117=.sli 1 8 [iV 0]:=by cbv
def N4:ty 35=.sli 3 56 [.ff,.nil,.nil]:=by cbv
def Rt (xs:List (List D))(hw:∀ e,e∈xs->e.length=1)(hn:xs.length<2^40):Sound 112 [zW 1000001 1 xs.length] [(1000001,z5 1 xs)] [] (zW 7 1 xs.length) [(1000001,z5 1 xs)] [(7,z5 1 xs)]:=by refine xR Jz rfl rfl rfl rfl rfl ?_;cbv;refine⟨λb hb=>?_⟩;cbv;refine zS (λh=>?_) (λh=>?_);{have h0:xs.length=0:=hb h;have h1:xs=[]:=gX h0;subst h1;cbv;refine pG id (.trans (wkZ (ps':=⟨[(2,.nil)],[(1000001,z5 1 ([]))]⟩)) (.adoptT 7 1 2 rfl rfl)) rfl okR (by rfl) okR ?_;exact lR};{cbv;refine J7 Kz rfl rfl rfl rfl rfl rfl rfl rfl ⟨hw⟩ (z3 om (by simp only[dZ];(try dsimp only [z6] at *) <;> omega)) rfl ?_;cbv;refine pG id (.refl _) rfl okR (by rfl) okR ?_;exact zR rfl (by simp)}

end Go.Proofs.YtboocdbmnfjomaaGreat
