/- A part of the proof: SyC, SyD, SyE, SyF. -/
import Derived.Test.YtfainocfaddbdaaGreatU28
set_option linter.all false
namespace Go.Proofs.YtfainocfaddbdaaGreat
open Go
set_option maxRecDepth 100000
set_option maxHeartbeats 4000000
theorem gS (fs:List (List Rat))(i:Nat):(fs.map (enc cq)).getD i []=enc cq (fs.getD i []):=by simp only[yC,vU];cases fs[i]? <;> rfl
theorem map_set (fs:List (List Rat))(i:Nat)(l:List Rat):(fs.map (enc cq)).set i (enc cq l)=(fs.set i l).map (enc cq):=by rw[List.map_set]
theorem i9 (fs:List (List Rat))(i:Nat):(fs.map (enc cq)).set i (enc cq (fs.getD i []))=fs.map (enc cq):=by rw[map_set];congr 1;by_cases h:i<fs.length;{obtain⟨l,hl⟩:=zO h;rw[getD_some hl,cF hl]};{rw[List.set_eq_of_length_le oM]}
theorem zGY {els:List (List D)}{l:List Rat}{i i':Nat}{x:Rat}{X:R}{K:List PV->Prop}(he:els=enc cq l)(h:l[i]?=some x)(hi:i'=i)(hX:zJ x=X)(hK:K (cR X)):ElOk 3 (fun _=>els) (fun _=>i') K:=by subst he;exact dK h hi hX hK
theorem zF9:Pg.funcs[87]?=some Tryz.f87:=by rw[vJ];rfl
theorem zDM (v r:Nat)(D:Dic)(p:Nat)(i:Nat)(hw:D.wf)(hi:i<D.fs.length)(hn:D.nb.length<2^40):Sound 87 [.ptr 1000000 0,.int .i64 (fun _=>(i:Int))] (tO v r D p) [] (rv (zJ (D.cst i))) (tO v r D p) []:=by
 refine yW zF9 rfl rfl rfl rfl rfl ?_;obtain⟨l,hl⟩:=zO hi;have hlen:=hw.row i l hl;have hgl:D.fs.getD i []=l:=getD_some hl;obtain⟨x,hx⟩:=zO (show D.nb.length<l.length by omega);have hc:D.cst i=x:=by unfold Dic.cst;rw[hgl,getD_some hx]
 obtain⟨X,hX⟩:∃ X,zJ x=X:=⟨_,rfl⟩;rw[hc,hX];have hrow:=gS D.fs i;have hsame:=i9 D.fs i;rw[hgl] at hrow hsame;cbv;refine mH 14 (.focus 1000003 30 (fun _=>i) rfl rfl (sU (by show i<(D.fs.map (enc cq)).length;rw[y8];exact hi))) (by cbv) ?_;cbv;refine⟨zQ om om,?_⟩;refine rT om ?_;cbv;refine⟨zQ om (by show (D.nb.length:Int)<(((D.fs.map (enc cq)).getD i []).length:Int);rw[hrow,zK];omega),?_⟩;refine zGY hrow hx om hX ?_;cbv;refine jF (ps':=⟨[(4,.ptr 4 0)],tO v r D p++[(4,.box (cR X))]⟩) (.trans (.unfocus 1000003 30 [] [] rfl rfl rfl ⟨rfl,rfl⟩) (.le okZ (by
  cbv
  repeat' first|exact trivial|exact lR|exact zB rfl|exact⟨by show (D.fs.map (enc cq)).set i ((D.fs.map (enc cq)).getD i [])=D.fs.map (enc cq);rw[hrow];exact hsame⟩|apply zN) rfl)) rfl
  okR (by rfl) okR ?_
 cbv;exact okA
theorem aN {l:List Nat}{i i':Nat}{x:Nat}{K:List PV->Prop}(h:l[i]?=some x)(hi:i'=i)(hK:K [.int .i64 (fun _=>(x:Int))]):ElOk 1 (fun _=>enc ci l) (fun _=>i') K :=
 ⟨⟨ci x,rfl,rfl,by show (enc ci l)[i']?=_;rw[hi];unfold enc;rw[vU,h];rfl,hK⟩⟩
theorem zAL:Pg.funcs[101]?=some Tryz.f101:=by rw[vJ];rfl
theorem zRI (v r:Nat)(D:Dic)(p:Nat)(hl:D.ob.length=D.nb.length+1)(hn:D.nb.length<2^40)(hf:lfit (2^34) D.ob):Sound 101 [.ptr 1000000 0,.osl 1000004 3 (fun _=>0) (fun _=>D.ob.length)] (tO v r D p) [] (.int .i64 (fun _=>ent v D.nb D.ob)) (tO v r D p) []:=by
 refine yW zAL rfl rfl rfl rfl rfl ?_;obtain⟨E,hE⟩:∃ E,ent v D.nb D.ob=E:=⟨_,rfl⟩;rw[hE];cbv;refine zX (σ:=Nat×Int) (fun s=>⟨[(0,.ptr 1000000 0),(1,.osl 1000004 3 (fun _=>0) (fun _=>D.ob.length)),(5,.int .i64 (fun _=>s.2)),(11,.osl 1000002 1 (fun _=>0) (fun _=>D.nb.length)),(12,.int .i64 (fun _=>(D.nb.length:Int))),(13,.int .i64 (fun _=>(s.1:Int)))],tO v r D p⟩)
  (fun s=>s.1<=D.nb.length/\(s.2=-1\/∃ k:Nat,s.2=k/\k<s.1)/\E=mG v D.nb D.ob (D.nb.drop s.1) s.1 s.2) (fun s=>D.nb.length-s.1)
  (0,-1) ⟨by omega,.inl rfl,by rw[<-hE];rfl⟩ (wkW) ?_
 intro s hs;obtain⟨j,b⟩:=s;obtain⟨g1,g2,g3⟩:=hs;dsimp only at g1 g2 g3;cbv;refine zD (fun h=>?_) (fun h=>?_)
 ·have hj:j<D.nb.length:=om;obtain⟨y,hy⟩:=zO hj;obtain⟨c,hc⟩:=zO (show j<D.ob.length by omega);have hd:D.nb.drop j=y::D.nb.drop (j+1):=by rw[c7 hj];congr 1;rw[wN hj] at hy;exact vC hy
  (rw[hd,mG,getD_some hc] at g3;obtain⟨C,hC⟩:∃ C,zJ c=C:=⟨_,rfl⟩;have fc:Fits (2^34) c:=hf c (zZ hc);have szC:C.sz (2^34):=by rw[<-hC];exact yF fc);have qC:C.q=c:=by rw[<-hC];exact yY c
  (have csc:=s86 C (by have:=szC.n;omega);rw[qC] at csc;have hneg:xF c<0↔c<0:=by unfold xF;split <;> (try split) <;> constructor <;> intro _ <;> first|assumption|omega|(exfalso;omega)|grind);generalize xF c=sc at *
  (have cfr:=d9 v r D p y;cbv;refine⟨zQ om om,?_⟩;refine aN hy om ?_;cbv;refine yU id (.refl _) rfl okA cfr okR rfl rfl rfl rfl rfl rfl rfl rfl ?_;cbv;have hle:j+1<=D.nb.length:=hj;have hmu:D.nb.length-(j+1)<D.nb.length-j:=by omega);have keepg:b=-1\/∃ k:Nat,b=k/\k<j+1:=by rcases g2 with g2|⟨k,g2,g2'⟩;{exact .inl g2};{exact .inr ⟨k,g2,zFB g2'⟩}
  have newg:((j:Nat):Int)=-1\/∃ k:Nat,((j:Nat):Int)=k/\k<j+1:=.inr ⟨j,rfl,zBU j⟩;refine yD (fun h1=>?_) (fun h1=>?_);{cbv;refine⟨zC om om,?_⟩;cbv;exact⟨(j+1,b),⟨hle,keepg,g3.trans (by rw[if_neg om])⟩,hmu,wkW⟩};cbv;refine⟨zQ om om,?_⟩;refine dK hc om hC ?_;cbv;refine cA csc ?_;cbv;refine yD (fun h2=>?_) (fun h2=>?_)
  rotate_left
  {cbv;refine⟨zC om om,?_⟩;cbv;exact⟨(j+1,b),⟨hle,keepg,g3.trans (by rw[if_neg (fun q=>h2 (hneg.2 q.2.1))])⟩,hmu,wkW⟩};cbv;refine yD (fun h3=>?_) (fun h3=>?_);{cbv;refine⟨zC om om,?_⟩;cbv;exact⟨(j+1,(j:Int)),⟨hle,newg,g3.trans (by rw[if_pos ⟨om,hneg.1 h2,.inl h3⟩])⟩,hmu,wkW⟩};have h3':¬b<0:=h3;obtain⟨k,hk,hkj⟩:∃ k:Nat,b=k/\k<j:=by rcases g2 with g2|⟨k,g2,g2'⟩;{omega};{exact⟨k,g2,g2'⟩}
  subst hk;obtain⟨z,hz⟩:=zO (show k<D.nb.length by omega);rw[xN,getD_some hz] at g3;cbv;refine⟨zQ om om,?_⟩;refine aN hz om ?_;cbv;refine zD (fun h4=>?_) (fun h4=>?_);{cbv;refine⟨zC om om,?_⟩;cbv;exact⟨(j+1,(j:Int)),⟨hle,newg,g3.trans (by rw[if_pos ⟨om,hneg.1 h2,.inr om⟩])⟩,hmu,wkW⟩}
  ·(have hq:¬(v<=y/\c<0/\(((k:Nat):Int)<0\/y<z)):=fun q=>by rcases q.2.2 with q|q;{omega};{exact h4 om});cbv;refine⟨zC om om,?_⟩;cbv;exact⟨(j+1,(k:Int)),⟨hle,keepg,g3.trans (by rw[if_neg hq])⟩,hmu,wkW⟩
 ·(have hj:j=D.nb.length:=by (try dsimp only [zI] at *);omega);have hEb:b=E:=by rw[g3,hj,vG];rfl
  subst hEb;cbv;refine jF (.refl _) rfl okR (by rfl) okR ?_;exact lR
theorem zSC {ops:List Oper}{ps ps':PS}{K:PS->Prop}(k i0:Nat)(hw:Wk ps ps')(hd:j9 ops k=true)(hm:zMD ops k i0 []=true)(h:zMC ops k i0 0 [] ps' K):DrawK ops ps K:=⟨.inr (.inr (.inl ⟨k,i0,0,[],ps',hw,hd,hm,h⟩))⟩
theorem zWM {l:List Nat}{i x:Nat}:(enc ci l).set i [D.int .i64 (x:Int)]=enc ci (l.set i x):=by rw[<-zC0];rfl
theorem zIH {α:Type}{P L:List α}{i:Nat}{x:α}(hl:P.length=L.length)(hx:L[i]?=some x):(P.take i++L.drop i)[i]?=some x:=by
 have hi:=(v4.1 hx).1;have h1:(P.take i).length=i:=by rw[y4];omega
 rw[uN oM,h1,dM,fQ,gM];exact hx
theorem iX {α:Type}{P L:List α}{i:Nat}{x:α}(hl:P.length=L.length)(hx:P[i]?=some x):(P.take i++L.drop i).set i x=P.take (i+1)++L.drop (i+1):=by
 have hi:=(v4.1 hx).1;have h1:(P.take i).length=i:=by rw[y4];omega
 have h2:(P.take (i+1)).length=i+1:=by rw[y4];omega
 apply mR;intro j;rw[kV];by_cases hj:i=j;{subst hj;rw[if_pos rfl,if_pos (by rw[wP,h1,kS];omega),uD oM,wG oM];exact hx.symm};{rw[if_neg hj];by_cases hlt:j<i;{rw[uD oM,uD oM,wG hlt,wG oM]};{rw[uN oM,uN oM,h1,h2,fQ,fQ];congr 1;omega}}
theorem d7 (n:Nat):List.replicate n [D.bool false,D.sl [],D.sl []]=enc cq (List.replicate n 0):=by
 have h:x6 (cq 0)=[D.bool false,D.sl [],D.sl []]:=by
  (have:zJ 0=⟨false,[],[]⟩:=by unfold zJ;simp[limbs_zero]);unfold cq
  rw[this];rfl
 unfold enc;rw[zFA,h]
theorem zVZ {G:List Rat}{n i:Nat}(hn:G.length=n)(hi:i<n):(G.take i++List.replicate (n-i) 0)[i]?=some 0:=by
 have h1:(G.take i).length=i:=by rw[y4];omega
 rw[uN oM,h1,dM,gC,if_pos oM]
theorem zKB {G:List Rat}{n i:Nat}{x:Rat}(hn:G.length=n)(hx:G[i]?=some x):(G.take i++List.replicate (n-i) 0).set i x=G.take (i+1)++List.replicate (n-(i+1)) 0:=by
 have hi:=(v4.1 hx).1;have h1:(G.take i).length=i:=by rw[y4];omega
 have h2:(G.take (i+1)).length=i+1:=by rw[y4];omega
 apply mR;intro j;rw[kV];by_cases hj:i=j;{subst hj;rw[if_pos rfl,if_pos (by simp;omega),uD oM,wG oM];exact hx.symm}
 ·rw[if_neg hj];by_cases hlt:j<i;{rw[uD oM,uD oM,wG hlt,wG oM]}
  ·(rw[uN oM,uN oM,h1,h2,gC,gC];have e1:j-i<n-i↔j-(i+1)<n-(i+1):=by omega);by_cases h:j-i<n-i
   {rw[if_pos h,if_pos (e1.1 h)]};{rw[if_neg h,if_neg (fun q=>h (e1.2 q))]}
theorem rF (v r0 : Nat) (D : Dic) (p r e : Nat) (hw : D.wf) (hr : r < D.bs.length) (he : e < D.nb.length) (h0 : D.at r e ≠ 0) (hp : p < 2^40) (hn : D.nb.length < 2^30) (hb : D.bs.length < 2^30) (hf : D.fit (2^30)) :
    Sound 86 [.ptr 1000000 0, .int .i64 (fun _ => (r : Int)), .int .i64 (fun _ => (e : Int))] (tO v r0 D p) [] (.tup []) (tO v r0 (D.piv r e) (p + 1)) [] := by
  refine sF Tryz.f86 ?_
  have hlf := hw.len
  obtain ⟨old, hold⟩ := zO (l := D.fs) (i := r) oM
  have hol := hw.row r old hold
  have hgo : D.fs.getD r [] = old := getD_some hold
  obtain ⟨o, ho⟩ := zO (show e < old.length by omega)
  have hgoe : old.getD e 0 = o := getD_some ho
  have ho0 : o ≠ 0 := by rw [← hgoe, ← hgo]; exact h0
  obtain ⟨b, hbr⟩ := zO hr
  obtain ⟨y, hye⟩ := zO he
  have fold : lfit (2^30) old := hf.fs old (zZ hold)
  have fo := fold o (zZ ho)
  obtain ⟨O, hO⟩ : ∃ O, zJ o = O := ⟨_, rfl⟩
  have szO : O.sz (2^30) := by rw [← hO]; exact yF fo
  have qO : O.q = o := by rw [← hO]; exact yY o
  obtain ⟨F, hF⟩ : ∃ F, qB old e = F := ⟨_, rfl⟩
  have hFl : F.length = D.nb.length + 1 := by rw [← hF, bN, hol]
  have hrow := gS D.fs r
  rw [hgo] at hrow
  obtain ⟨D', hD'⟩ : ∃ D', D.piv r e = D' := ⟨_, rfl⟩
  rw [hD']
  cbv
  refine ⟨zC om om, ?_⟩
  cbv
  refine ⟨zQ om om, ?_⟩
  refine ⟨_, .focus 1000003 30 (fun _ => r) rfl rfl (sU (by show r < (D.fs.map (enc cq)).length; rw [y8]; omega)), ?_⟩
  cbv
  refine rT om ?_
  cbv
  have hoL : ((D.fs.map (enc cq)).getD r []).length = old.length := by rw [hrow, zK]
  refine ⟨yB om (by rw [hoL]; (try dsimp only [zI] at *); omega), vF om om, ?_⟩
  obtain ⟨Z, hZ⟩ : ∃ Z, zJ 0 = Z := ⟨_, rfl⟩
  obtain ⟨G, hG⟩ : ∃ G, (old.map fun c => -c / o).set e 0 = G := ⟨_, rfl⟩
  have hGl : G.length = old.length := by rw [← hG, kD, y8]
  have hGF : G.set e (1 / o) = F := by rw [← hG, ← hF, List.set_set]; unfold qB; rw [hgoe]
  refine zX (σ := Nat × List Rat) (fun s => ⟨[(0, .ptr 1000000 0), (1, .int .i64 (fun _ => (r : Int))), (2, .int .i64 (fun _ => (e : Int))), (6, .osl 30 3 (fun _ => 0) (fun _ => old.length)), (7, .osl 27 3 (fun _ => 0) (fun _ => old.length)), (28, .osl 30 3 (fun _ => 0) (fun _ => old.length)), (29, .int .i64 (fun _ => (old.length : Int))), (30, .int .i64 (fun _ => (s.1 : Int)))],
      [(1000000, .box [.int .i64 (fun _ => (v : Int)), .int .i64 (fun _ => (r0 : Int)), .osl 1000001 1 (fun _ => 0) (fun _ => D.bs.length), .osl 1000002 1 (fun _ => 0) (fun _ => D.nb.length), .osl 1000003 1 (fun _ => 0) (fun _ => D.fs.length), .osl 1000004 3 (fun _ => 0) (fun _ => D.ob.length), .int .i64 (fun _ => ((p + 1 : Nat) : Int))]),
       (1000001, .arr 1 (fun _ => enc ci D.bs)), (1000002, .arr 1 (fun _ => enc ci D.nb)), (1000003, .mat 3 (fun _ => D.fs.map (enc cq)) [(.osl 30 3 (fun _ => 0) (fun _ => old.length), fun _ => r)]), (1000004, .arr 3 (fun _ => enc cq D.ob)), (30, .arr 3 (fun _ => enc cq old)), (27, .arr 3 (fun _ => enc cq s.2))]⟩)
    (fun s => s.1 ≤ old.length ∧ s.2 = G.take s.1 ++ List.replicate (old.length - s.1) 0) (fun s => old.length - s.1)
    (0, List.replicate old.length 0) ⟨by omega, by simp⟩ (.le (by cbv; repeat' first | exact trivial | exact lR | exact zU rfl (by first | rfl | exact hoL | (show Int.toNat _ = _; rw [hoL]; rfl)) | exact zE (by rw [hoL]) | exact zE om | apply zN) (by
      cbv
      repeat' first | exact trivial | exact lR | exact zB rfl | exact zE om | exact ⟨rfl⟩ | exact zU rfl hoL | exact zB hrow | exact zB (by show List.replicate (Int.toNat _) _ = _; rw [hoL]; exact d7 _) | apply zN) rfl) ?_
  intro s hs
  obtain ⟨j, m⟩ := s
  obtain ⟨g1, g2⟩ := hs
  dsimp only at g1 g2
  cbv
  refine zD (fun h => ?_) (fun h => ?_)
  · have hj : j < old.length := om
    obtain ⟨c, hc⟩ := zO hj
    have fc := fold c (zZ hc)
    obtain ⟨C, hC⟩ : ∃ C, zJ c = C := ⟨_, rfl⟩
    have szC : C.sz (2^30) := by rw [← hC]; exact yF fc
    have qC : C.q = c := by rw [← hC]; exact yY c
    have csc := s86 C (by have := szC.n; omega)
    rw [qC] at csc
    obtain ⟨N, hN⟩ : ∃ N, zJ (-c) = N := ⟨_, rfl⟩
    have fn : Fits (2^30) (-c) := aK fc
    have szN : N.sz (2^30) := by rw [← hN]; exact yF fn
    have qN : N.q = -c := by rw [← hN]; exact yY _
    have cn := zWO C (szC.mono (by decide))
    rw [qC, hN] at cn
    obtain ⟨W, hW⟩ : ∃ W, zJ (-c / o) = W := ⟨_, rfl⟩
    have cd := zT3 N O (szN.mono (by decide)) (szO.mono (by decide)) (by rw [qO]; exact ho0)
    rw [qN, qO, hW] at cd
    have hmj : m[j]? = some 0 := by rw [g2]; exact zVZ hGl hj
    have hGe : j = e → G[j]? = some 0 := fun q => by rw [← hG, q, kV, if_pos rfl, if_pos (by rw [y8]; omega)]
    have hGn : j ≠ e → G[j]? = some (-c / o) := fun q => by rw [← hG, kV, if_neg (fun h => q h.symm), vU, hc]; rfl
    have hst0 : j = e ∨ c = 0 → m = G.take (j + 1) ++ List.replicate (old.length - (j + 1)) 0 := fun q => by
      have hg : G[j]? = some 0 := by
        by_cases q2 : j = e
        · exact hGe q2
        · rw [hGn q2, q.resolve_left q2]; congr 1; rw [iK, fF, zBP]
      have := zKB hGl hg
      rw [← g2, cF hmj] at this
      exact this
    have hst : j ≠ e → m.set j (-c / o) = G.take (j + 1) ++ List.replicate (old.length - (j + 1)) 0 := fun q => by rw [g2]; exact zKB hGl (hGn q)
    have hle : j + 1 ≤ old.length := hj
    have hmu : old.length - (j + 1) < old.length - j := by omega
    have hsg : xF c = 0 → c = 0 := fun h => dR.1 h
    generalize xF c = sc at *
    cbv
    refine ⟨zQ om om, ?_⟩
    refine dK hc om hC ?_
    cbv
    refine yD (fun h1 => ?_) (fun h1 => ?_)
    · cbv
      refine ⟨zC om om, ?_⟩
      cbv
      exact ⟨(j + 1, m), ⟨hle, hst0 (.inl om)⟩, hmu, wkW⟩
    cbv
    refine cA csc ?_
    cbv
    refine zD (fun h2 => ?_) (fun h2 => ?_)
    · cbv
      refine ⟨zC om om, ?_⟩
      cbv
      exact ⟨(j + 1, m), ⟨hle, hst0 (.inr (hsg h2))⟩, hmu, wkW⟩
    cbv
    refine zOT 14 13 (by cbv) (by cbv) ?_
    cbv
    refine dA cn ?_
    cbv
    refine ⟨zQ om om, ?_⟩
    refine dK ho om hO ?_
    cbv
    refine dA cd ?_
    cbv
    refine ⟨zQ om om, ?_⟩
    refine dK hmj om hZ ?_
    cbv
    refine ⟨zC om om, ?_⟩
    cbv
    exact ⟨(j + 1, m.set j (-c / o)), ⟨hle, hst om⟩, hmu, .le okZ (by
      cbv
      repeat' first | exact trivial | exact lR | exact zB rfl | exact ⟨rfl⟩ | exact zB (by show (enc cq m).set (0 + j) _ = enc cq (m.set j (-c / o)); rw [xA]; exact p7 hW) | apply zN) rfl⟩
  · have hj : j = old.length := by (try dsimp only [zI] at *); omega
    have hm : m = G := by rw [g2, hj, ← hGl, s6, dM]; simp
    subst hm
    obtain ⟨U, hU⟩ : ∃ U, zJ ((1 : Int) : Rat) = U := ⟨_, rfl⟩
    have c1 := s104 1 (by decide) (by decide)
    rw [hU] at c1
    have qU : U.q = 1 := by rw [← hU]; exact yY _
    have szU : U.sz (2^30) := by rw [← hU]; exact yF (fits_one.mono (by decide))
    obtain ⟨V, hV⟩ : ∃ V, zJ (1 / o) = V := ⟨_, rfl⟩
    have cd := zT3 U O (szU.mono (by decide)) (szO.mono (by decide)) (by rw [qO]; exact ho0)
    rw [qU, qO, hV] at cd
    have hme : m[e]? = some 0 := by rw [← hG, kV, if_pos rfl, if_pos (by rw [y8]; omega)]
    cbv
    refine zOT 13 12 (by cbv) (by cbv) ?_
    cbv
    refine dA c1 ?_
    cbv
    refine ⟨zQ om om, ?_⟩
    refine dK ho om hO ?_
    cbv
    refine dA cd ?_
    cbv
    refine ⟨zQ om om, ?_⟩
    refine dK hme om hZ ?_
    cbv
    refine zSC (ps' := ⟨[(0, .ptr 1000000 0), (1, .int .i64 (fun _ => (r : Int))), (2, .int .i64 (fun _ => (e : Int))), (7, .osl 27 3 (fun _ => 0) (fun _ => F.length))],
      [(1000000, .box [.int .i64 (fun _ => (v : Int)), .int .i64 (fun _ => (r0 : Int)), .osl 1000001 1 (fun _ => 0) (fun _ => D.bs.length), .osl 1000002 1 (fun _ => 0) (fun _ => D.nb.length), .osl 1000003 1 (fun _ => 0) (fun _ => D.fs.length), .osl 1000004 3 (fun _ => 0) (fun _ => D.ob.length), .int .i64 (fun _ => ((p + 1 : Nat) : Int))]),
       (1000001, .arr 1 (fun _ => enc ci D.bs)), (1000002, .arr 1 (fun _ => enc ci D.nb)), (1000003, .mat 3 (fun _ => D.fs.map (enc cq)) [(.osl 30 3 (fun _ => 0) (fun _ => old.length), fun _ => r)]), (1000004, .arr 3 (fun _ => enc cq D.ob)), (30, .arr 3 (fun _ => enc cq old)), (27, .arr 3 (fun _ => enc cq F))]⟩) 26 25
      (.le (by cbv; repeat' first | exact trivial | exact lR | exact zU rfl oM | apply zN) (by
        cbv
        repeat' first | exact trivial | exact lR | exact zB rfl | exact ⟨rfl⟩ | exact zB (by show (enc cq m).set (0 + e) _ = enc cq F; rw [xA, ← hGF]; exact p7 hV) | apply zN) rfl) (by cbv) (by cbv) ?_
    cbv
    refine ⟨zQ om om, ?_⟩
    refine aN hye om ?_
    cbv
    refine ⟨zQ om om, ?_⟩
    refine aN hbr om ?_
    cbv
    refine ⟨zQ om om, ?_⟩
    refine aN hbr om ?_
    cbv
    refine ⟨zQ om om, ?_⟩
    refine aN hye om ?_
    cbv
    obtain ⟨P, hP⟩ : ∃ P, (tI r e F 0 D.fs).set r old = P := ⟨_, rfl⟩
    have hPl : P.length = D.fs.length := by rw [← hP, kD, eG]
    have hfF : lfit (2^32) F := by rw [← hF]; exact (zFU (by decide) fold).mono (by decide)
    refine zX (σ := Nat × List (List Rat)) (fun s => ⟨[(0, .ptr 1000000 0), (1, .int .i64 (fun _ => (r : Int))), (2, .int .i64 (fun _ => (e : Int))), (7, .osl 27 3 (fun _ => 0) (fun _ => F.length)), (99, .int .i64 (fun _ => (D.fs.length : Int))), (100, .int .i64 (fun _ => (s.1 : Int)))],
        [(1000000, .box [.int .i64 (fun _ => (v : Int)), .int .i64 (fun _ => (r0 : Int)), .osl 1000001 1 (fun _ => 0) (fun _ => D.bs.length), .osl 1000002 1 (fun _ => 0) (fun _ => D.nb.length), .osl 1000003 1 (fun _ => 0) (fun _ => D.fs.length), .osl 1000004 3 (fun _ => 0) (fun _ => D.ob.length), .int .i64 (fun _ => ((p + 1 : Nat) : Int))]),
         (1000001, .arr 1 (fun _ => enc ci (D.bs.set r y))), (1000002, .arr 1 (fun _ => enc ci (D.nb.set e b))), (1000003, .mat 3 (fun _ => s.2.map (enc cq)) [(.osl 30 3 (fun _ => 0) (fun _ => old.length), fun _ => r)]), (1000004, .arr 3 (fun _ => enc cq D.ob)), (30, .arr 3 (fun _ => enc cq old)), (27, .arr 3 (fun _ => enc cq F))]⟩)
      (fun s => s.1 ≤ D.fs.length ∧ s.2 = P.take s.1 ++ D.fs.drop s.1) (fun s => D.fs.length - s.1)
      (0, D.fs) ⟨by omega, by simp⟩ (.le okZ (by
        cbv
        repeat' first | exact trivial | exact lR | exact zB rfl | exact ⟨rfl⟩ | exact zB (by show (enc ci D.bs).set (0 + r) _ = _; rw [xA]; exact zWM) | exact zB (by show (enc ci D.nb).set (0 + e) _ = _; rw [xA]; exact zWM) | apply zN) rfl) ?_
    intro s hs
    obtain ⟨i, M⟩ := s
    obtain ⟨k1, k2⟩ := hs
    dsimp only at k1 k2
    cbv
    refine zD (fun hh => ?_) (fun hh => ?_)
    · have hi : i < D.fs.length := om
      obtain ⟨l, hl⟩ := zO hi
      have hll := hw.row i l hl
      have hMl : M.length = D.fs.length := by rw [k2, wP, y4, kS]; omega
      have hMi : M[i]? = some l := by rw [k2]; exact zIH hPl hl
      obtain ⟨S, hS⟩ : ∃ S, sbs l e F = S := ⟨_, rfl⟩
      have csub := zS5 l F e oM oM oM ((hf.fs l (zZ hl)).mono (by decide)) hfF
      rw [hS] at csub
      have hPi : i ≠ r → P[i]? = some S := fun q => by rw [← hP, kV, if_neg (fun h => q h.symm), cI, hl, xA]; simp [q, hS]
      have hPr : i = r → P[i]? = some l := fun q => by
        subst q
        rw [← hP, kV, if_pos rfl, if_pos (by rw [eG]; omega)]
        rw [hold] at hl
        exact hl
      have hle : i + 1 ≤ D.fs.length := hi
      have hmu : D.fs.length - (i + 1) < D.fs.length - i := by omega
      have hstr : i = r → M = P.take (i + 1) ++ D.fs.drop (i + 1) := fun q => by
        have := iX hPl (hPr q)
        rw [← k2, cF hMi] at this
        exact this
      have hst : i ≠ r → M.set i S = P.take (i + 1) ++ D.fs.drop (i + 1) := fun q => by rw [k2]; exact iX hPl (hPi q)
      have hSl : S.length = l.length := by rw [← hS, zCR]
      have hrowi := gS M i
      rw [getD_some hMi] at hrowi
      cbv
      refine zD (fun h5 => ?_) (fun h5 => ?_)
      · cbv
        refine ⟨zC om om, ?_⟩
        cbv
        exact ⟨(i + 1, M), ⟨hle, hstr om⟩, hmu, wkW⟩
      cbv
      refine ⟨zQ om om, ?_⟩
      refine ⟨_, .focus 1000003 31 (fun _ => i) rfl rfl (zVX (by show i < (M.map (enc cq)).length; rw [y8]; omega) (by show r ≠ i; (try dsimp only [zI] at *); omega)), ?_⟩
      cbv
      refine rT om ?_
      cbv
      have hril : ((M.map (enc cq)).getD i []).length = l.length := by rw [hrowi, zK]
      refine yU (ps' := ⟨[(0, .ptr 1000000 0), (1, .int .i64 (fun _ => (r : Int))), (2, .int .i64 (fun _ => (e : Int))), (7, .osl 27 3 (fun _ => 0) (fun _ => F.length)), (99, .int .i64 (fun _ => (D.fs.length : Int))), (100, .int .i64 (fun _ => (i : Int))), (112, .osl 31 3 (fun _ => 0) (fun _ => l.length)), (113, .int .i64 (fun _ => (e : Int))), (114, .osl 27 3 (fun _ => 0) (fun _ => F.length))],
        [(1000000, .box [.int .i64 (fun _ => (v : Int)), .int .i64 (fun _ => (r0 : Int)), .osl 1000001 1 (fun _ => 0) (fun _ => D.bs.length), .osl 1000002 1 (fun _ => 0) (fun _ => D.nb.length), .osl 1000003 1 (fun _ => 0) (fun _ => D.fs.length), .osl 1000004 3 (fun _ => 0) (fun _ => D.ob.length), .int .i64 (fun _ => ((p + 1 : Nat) : Int))]),
         (1000001, .arr 1 (fun _ => enc ci (D.bs.set r y))), (1000002, .arr 1 (fun _ => enc ci (D.nb.set e b))), (1000003, .mat 3 (fun _ => M.map (enc cq)) [(.osl 31 3 (fun _ => 0) (fun _ => l.length), fun _ => i), (.osl 30 3 (fun _ => 0) (fun _ => old.length), fun _ => r)]), (1000004, .arr 3 (fun _ => enc cq D.ob)), (30, .arr 3 (fun _ => enc cq old)), (27, .arr 3 (fun _ => enc cq F)), (31, .arr 3 (fun _ => enc cq l))]⟩) (fun n => match nqb n 1000001 with | true => 31 | false => 27)
        (.le (by cbv; repeat' first | exact trivial | exact lR | exact zU rfl hril | apply zN) (by
          cbv
          repeat' first | exact trivial | exact lR | exact zB rfl | exact ⟨rfl⟩ | exact zU rfl hril | exact zB hrowi | apply zN) rfl) rfl okA csub okR rfl rfl rfl rfl rfl rfl rfl rfl ?_
      cbv
      refine ⟨zC om om, ?_⟩
      cbv
      refine ⟨(i + 1, M.set i S), ⟨hle, hst om⟩, hmu, .trans (.unfocus 1000003 31 [] [(.osl 30 3 (fun _ => 0) (fun _ => old.length), fun _ => r)] rfl rfl rfl ⟨rfl, by show l.length = (enc cq S).length; rw [zK, hSl]⟩) (.le okZ (by
        cbv
        repeat' first | exact trivial | exact lR | exact zB rfl | exact ⟨rfl⟩ | exact ⟨by show (M.map (enc cq)).set i (enc cq S) = (M.set i S).map (enc cq); exact map_set _ _ _⟩ | apply zN) rfl)⟩
    · have hi : i = D.fs.length := by (try dsimp only [zI] at *); omega
      have hM : M = P := by rw [k2, hi, vG, kC, ← hPl, s6]
      obtain ⟨T, hT⟩ : ∃ T, sbs D.ob e F = T := ⟨_, rfl⟩
      have hwo := hw.ob
      have csub := zS5 D.ob F e oM oM oM (hf.ob.mono (by decide)) hfF
      rw [hT] at csub
      have hPM : M.set r F = tI r e F 0 D.fs := by
        rw [hM, ← hP, List.set_set]
        refine cF ?_
        rw [cI, hold, xA]
        simp
      have hDD : D' = ⟨D.bs.set r y, D.nb.set e b, M.set r F, T⟩ := by
        rw [← hD', hPM]
        unfold Dic.piv
        simp only [hgo, hF, getD_some hye, getD_some hbr, hT]
      have hTl : T.length = D.ob.length := by rw [← hT, zCR]
      have hMl : M.length = D.fs.length := by rw [hM, hPl]
      have q1 : D'.bs = D.bs.set r y := by rw [hDD]
      have q2 : D'.nb = D.nb.set e b := by rw [hDD]
      have q3 : D'.fs = M.set r F := by rw [hDD]
      have q4 : D'.ob = T := by rw [hDD]
      clear hDD
      cbv
      refine yU (fun n => match nqb n 1000001 with | true => 1000004 | false => 27) (.refl _) rfl okA csub okR rfl rfl rfl rfl rfl rfl rfl rfl ?_
      cbv
      refine ⟨zQ om om, ?_⟩
      refine sto0 om ?_
      cbv
      refine jF (ps' := ⟨[], tO v r0 D' (p + 1)⟩) (.trans (.unfocus 1000003 27 [] [] rfl rfl rfl ⟨rfl, by show F.length = (enc cq F).length; rw [zK]⟩) (.le okZ (by
        cbv
        repeat' first | exact trivial | exact lR | exact zB rfl | exact ⟨rfl⟩ | exact zU rfl (by first | (rw [q1, kD]; done) | (rw [q2, kD]; done) | (rw [q3, kD, hMl]; done) | (rw [q4]; exact hTl.symm)) | exact zB (by rw [q1]) | exact zB (by rw [q2]) | exact zB (by rw [q4]) | exact ⟨by show (M.map (enc cq)).set r (enc cq F) = D'.fs.map (enc cq); rw [q3]; exact map_set _ _ _⟩ | apply zN) rfl)) rfl
        okR (by rfl) okR ?_
      exact trivial
def tH (v r : Nat) (D : Dic) (p i : Nat) : List (Nat × Obj') :=
  [(1000000, .box [.int .i64 (fun _ => (v : Int)), .int .i64 (fun _ => (r : Int)), .osl 1000001 1 (fun _ => 0) (fun _ => D.bs.length), .osl 1000002 1 (fun _ => 0) (fun _ => D.nb.length), .osl 1000003 1 (fun _ => 0) (fun _ => D.fs.length), .osl 1000004 3 (fun _ => 0) (fun _ => D.ob.length), .int .i64 (fun _ => (p : Int))]),
   (1000001, .arr 1 (fun _ => enc ci D.bs)), (1000002, .arr 1 (fun _ => enc ci D.nb)), (1000003, .mat 3 (fun _ => D.fs.map (enc cq)) [(.osl 1000005 3 (fun _ => 0) (fun _ => ((D.fs.map (enc cq)).getD i []).length), fun _ => i)]), (1000004, .arr 3 (fun _ => enc cq D.ob)), (1000005, .arr 3 (fun _ => (D.fs.map (enc cq)).getD i []))]
theorem zPR (v r:Nat)(D:Dic)(p:Nat)(i:Nat)(hw:D.wf)(hi:i<D.fs.length)(hn:D.nb.length<2^40):Sound 87 [.ptr 1000000 0,.int .i64 (fun _=>(i:Int))] (tH v r D p i) [] (rv (zJ (D.cst i))) (tH v r D p i) []:=by
 refine yW zF9 rfl rfl rfl rfl rfl ?_;obtain⟨l,hl⟩:=zO hi;have hlen:=hw.row i l hl;have hgl:D.fs.getD i []=l:=getD_some hl;obtain⟨x,hx⟩:=zO (show D.nb.length<l.length by omega);have hc:D.cst i=x:=by unfold Dic.cst;rw[hgl,getD_some hx]
 obtain⟨X,hX⟩:∃ X,zJ x=X:=⟨_,rfl⟩;rw[hc,hX];have hrow:=gS D.fs i;rw[hgl] at hrow;cbv;refine zT 14 (by cbv) ?_;cbv;refine⟨zQ om om,?_⟩;refine rT om ?_;cbv;refine⟨zQ om (by show (D.nb.length:Int)<(((D.fs.map (enc cq)).getD i []).length:Int);rw[hrow,zK];omega),?_⟩;refine zGY hrow hx om hX ?_;cbv;refine jF (.refl _) rfl
  okR (by rfl) okR ?_
 cbv;exact okA
theorem zDL (v r:Nat)(D:Dic)(p e:Nat)(hw:D.wf)(he:e<D.nb.length)(hn:D.nb.length<2^30)(hb:D.bs.length<2^30)(hf:D.fit (2^30)):Sound 102 [.ptr 1000000 0,.int .i64 (fun _=>(e:Int))] (tO v r D p) [] (.int .i64 (fun _=>lvR v e D)) (tO v r D p) []:=by
 refine sF Tryz.f102 ?_;have hlf:=hw.len;obtain⟨E,hE⟩:∃ E,lvR v e D=E:=⟨_,rfl⟩;rw[hE];cbv;refine zX (σ:=Nat×Int×Rat×R) (fun s=>⟨[(0,.ptr 1000000 0),(1,.int .i64 (fun _=>(e:Int))),(5,.int .i64 (fun _=>s.2.1)),(6,.ptr 6 0),(15,.osl 1000001 1 (fun _=>0) (fun _=>D.bs.length)),(16,.int .i64 (fun _=>(D.bs.length:Int))),(17,.int .i64 (fun _=>(s.1:Int)))],tO v r D p++[(6,.box (cR s.2.2.2))]⟩)
  (fun s=>s.1<=D.bs.length/\(s.2.1=-1\/∃ k:Nat,s.2.1=k/\k<s.1)/\Fits (2^31) s.2.2.1/\zJ s.2.2.1=s.2.2.2/\E=lvGo v e D (D.bs.drop s.1) s.1 s.2.1 s.2.2.1) (fun s=>D.bs.length-s.1)
  (0,-1,0,⟨false,[],[]⟩) ⟨by omega,.inl rfl,wD (by decide),by unfold zJ;simp[limbs_zero],by rw[<-hE];rfl⟩ (wkW) ?_
 intro s hs;obtain⟨i,b,q,Q⟩:=s;obtain⟨g1,g2,g3,g4,g5⟩:=hs;dsimp only at g1 g2 g3 g4 g5;cbv;refine zD (fun h=>?_) (fun h=>?_)
 ·(have hi:i<D.bs.length:=om;obtain⟨y,hy⟩:=zO hi;obtain⟨l,hl⟩:=zO (show i<D.fs.length by omega);have hll:=hw.row i l hl;have hgl:D.fs.getD i []=l:=getD_some hl;have hrow:=gS D.fs i;have hsame:=i9 D.fs i;rw[hgl] at hrow hsame;obtain⟨a,ha⟩:=zO (show e<l.length by omega);have hat:D.at i e=a:=by unfold Dic.at;rw[hgl,getD_some ha]);obtain⟨x,hx⟩:=zO (show D.nb.length<l.length by omega)
  (have hcs:D.cst i=x:=by unfold Dic.cst;rw[hgl,getD_some hx]);have hd:D.bs.drop i=y::D.bs.drop (i+1):=by rw[c7 hi];congr 1;rw[wN hi] at hy;exact vC hy
  (rw[hd,lvGo,hat,hcs] at g5;have fl:=hf.fs l (zZ hl);have fa:Fits (2^30) a:=fl a (zZ ha);have fx:Fits (2^30) x:=fl x (zZ hx);obtain⟨A,hA⟩:∃ A,zJ a=A:=⟨_,rfl⟩;obtain⟨X,hX⟩:∃ X,zJ x=X:=⟨_,rfl⟩;have szA:A.sz (2^30):=by rw[<-hA];exact yF fa);have szX:X.sz (2^30):=by rw[<-hX];exact yF fx
  (have qA:A.q=a:=by rw[<-hA];exact yY a);have qX:X.q=x:=by rw[<-hX];exact yY x
  (have csa:=s86 A (by have:=szA.n;omega);rw[qA] at csa;have hneg:xF a<0↔a<0:=by unfold xF;split <;> (try split) <;> constructor <;> intro _ <;> first|assumption|omega|(exfalso;omega)|grind);obtain⟨N,hN⟩:∃ N,zJ (-a)=N:=⟨_,rfl⟩
  (have fn:Fits (2^30) (-a):=aK fa;have szN:N.sz (2^30):=by rw[<-hN];exact yF fn);have qN:N.q=-a:=by rw[<-hN];exact yY _
  (have cn:=zWO A (szA.mono (by decide));rw[qA,hN] at cn;have cfr:=d9 v r D p y;have cco:=zPR v r D p i hw oM oM;rw[hcs,hX] at cco;have hle:i+1<=D.bs.length:=hi;have hmu:D.bs.length-(i+1)<D.bs.length-i:=by omega);have keepg:b=-1\/∃ k:Nat,b=k/\k<i+1:=by rcases g2 with g2|⟨k,g2,g2'⟩;{exact .inl g2};{exact .inr ⟨k,g2,zFB g2'⟩}
  have newg:((i:Nat):Int)=-1\/∃ k:Nat,((i:Nat):Int)=k/\k<i+1:=.inr ⟨i,rfl,zBU i⟩;generalize hsa:xF a=sa at *
  cbv;refine⟨zQ om om,?_⟩;refine aN hy om ?_;cbv;refine yU id (.refl _) rfl okA cfr okR rfl rfl rfl rfl rfl rfl rfl rfl ?_;cbv;refine yD (fun h1=>?_) (fun h1=>?_);{cbv;refine⟨zC om om,?_⟩;cbv;exact⟨(i+1,b,q,Q),⟨hle,keepg,g3,g4,g5.trans (by rw[if_neg om])⟩,hmu,wkW⟩};cbv;refine⟨zQ om om,?_⟩;refine⟨_,.focus 1000003 31 (fun _=>i) rfl rfl (sU (by show i<(D.fs.map (enc cq)).length;rw[y8];omega)),?_⟩;cbv;refine rT om ?_;cbv;refine⟨zQ om (by show (e:Int)<(((D.fs.map (enc cq)).getD i []).length:Int);rw[hrow,zK];omega),?_⟩;refine zGY hrow ha om hA ?_;cbv;refine cA csa ?_;cbv;refine zD (fun h2=>?_) (fun h2=>?_);{cbv;refine⟨zC om om,?_⟩;cbv;exact⟨(i+1,b,q,Q),⟨hle,keepg,g3,g4,g5.trans (by rw[if_neg (fun q=>by have:=hneg.2 q.2;omega)])⟩,hmu,.trans (.unfocus 1000003 31 [] [] rfl rfl rfl ⟨rfl,rfl⟩) (.le okZ (by cbv;repeat' first|exact trivial|exact lR|exact zB rfl|exact⟨by show (D.fs.map (enc cq)).set i ((D.fs.map (enc cq)).getD i [])=D.fs.map (enc cq);rw[hrow];exact hsame⟩|exact zE om|apply zN) rfl)⟩}
  (cbv;have ha0:a<0:=hneg.1 om;have hna:-a≠0:=by grind);rw[if_pos ⟨om,ha0⟩] at g5
  (obtain⟨t,ht⟩:∃ t,x / -a=t:=⟨_,rfl⟩;have ft:Fits (2^31) t:=by rw[<-ht];exact (zD4 fx fn).mono (by decide));obtain⟨W,hW⟩:∃ W,zJ t=W:=⟨_,rfl⟩
  (have cd:=zT3 X N (szX.mono (by decide)) (szN.mono (by decide)) (by rw[qN];exact hna);rw[qX,qN,ht,hW] at cd;rw[ht] at g5;have szW:W.sz (2^31):=by rw[<-hW];exact yF ft);have szQ:Q.sz (2^31):=by rw[<-g4];exact yF g3
  (have qW:W.q=t:=by rw[<-hW];exact yY _);have qQ:Q.q=q:=by rw[<-g4];exact yY _
  (have ccm:=s165 Q W (szQ.mono (by decide)) (szW.mono (by decide));rw[qQ,qW] at ccm;have hc1:gJ q t > 0↔t<q:=by unfold gJ;split <;> (try split) <;> constructor <;> intro _ <;> first|assumption|omega|(exfalso;omega)|grind);have hc0:gJ q t=0↔t=q:=by unfold gJ;split <;> (try split) <;> constructor <;> intro _ <;> first|assumption|omega|(exfalso;omega)|grind
  generalize hcm:gJ q t=cm at *
  refine zOU 20 [(19,9)] (by cbv) (by cbv) (by cbv) ?_;cbv;refine uE hnM0 okA cco okR rfl rfl rfl rfl rfl rfl ?_;cbv;refine⟨zQ om om,?_⟩;refine rT om ?_;cbv;refine⟨zQ om (by show (e:Int)<(((D.fs.map (enc cq)).getD i []).length:Int);rw[hrow,zK];omega),?_⟩;refine zGY hrow ha om hA ?_;cbv;refine dA cn ?_;cbv;refine dA cd ?_;cbv;refine zD (fun h3=>?_) (fun h3=>?_)
  ·(obtain⟨k,hk,hki⟩:∃ k:Nat,b=k/\k<i:=by rcases g2 with g2|⟨k,g2,g2'⟩;{exact absurd h3 (by show ¬(0:Int)<=b;omega)};{exact⟨k,g2,g2'⟩});subst hk;obtain⟨z,hz⟩:=zO (show k<D.bs.length by omega);rw[xN,getD_some hz] at g5;cbv;refine cA ccm ?_;cbv;refine yD (fun h4=>?_) (fun h4=>?_)
   {cbv;refine zT 3 (by cbv) ?_;cbv;refine⟨zC om om,?_⟩;cbv;exact⟨(i+1,(i:Int),t,W),⟨hle,newg,ft,hW,g5.trans (by rw[if_pos (.inr (.inl (hc1.1 h4)))])⟩,hmu,.trans (.unfocus 1000003 31 [] [] rfl rfl rfl ⟨rfl,rfl⟩) (.le okZ (by cbv;repeat' first|exact trivial|exact lR|exact zB rfl|exact⟨by show (D.fs.map (enc cq)).set i ((D.fs.map (enc cq)).getD i [])=D.fs.map (enc cq);rw[hrow];exact hsame⟩|exact zE om|apply zN) rfl)⟩};cbv;refine yD (fun h5=>?_) (fun h5=>?_);{cbv;refine⟨zQ om om,?_⟩;refine aN hz om ?_;cbv;refine zD (fun h6=>?_) (fun h6=>?_);{cbv;refine zT 3 (by cbv) ?_;cbv;refine⟨zC om om,?_⟩;cbv;exact⟨(i+1,(i:Int),t,W),⟨hle,newg,ft,hW,g5.trans (by rw[if_pos (.inr (.inr ⟨hc0.1 h5,om⟩))])⟩,hmu,.trans (.unfocus 1000003 31 [] [] rfl rfl rfl ⟨rfl,rfl⟩) (.le okZ (by cbv;repeat' first|exact trivial|exact lR|exact zB rfl|exact⟨by show (D.fs.map (enc cq)).set i ((D.fs.map (enc cq)).getD i [])=D.fs.map (enc cq);rw[hrow];exact hsame⟩|exact zE om|apply zN) rfl)⟩};{cbv;refine⟨zC om om,?_⟩;cbv;exact⟨(i+1,(k:Int),q,Q),⟨hle,keepg,g3,g4,g5.trans (by rw[if_neg (fun w=>w.elim (fun w=>absurd w (Int.not_lt.2 (dE _))) (fun w=>w.elim (fun w=>h4 (hc1.2 w)) (fun w=>h6 (by have:=w.2;(try dsimp only [zI] at *);omega))))])⟩,hmu,.trans (.unfocus 1000003 31 [] [] rfl rfl rfl ⟨rfl,rfl⟩) (.le okZ (by cbv;repeat' first|exact trivial|exact lR|exact zB rfl|exact⟨by show (D.fs.map (enc cq)).set i ((D.fs.map (enc cq)).getD i [])=D.fs.map (enc cq);rw[hrow];exact hsame⟩|exact zE om|apply zN) rfl)⟩}};{cbv;refine⟨zC om om,?_⟩;cbv;exact⟨(i+1,(k:Int),q,Q),⟨hle,keepg,g3,g4,g5.trans (by rw[if_neg (fun w=>w.elim (fun w=>absurd w (Int.not_lt.2 (dE _))) (fun w=>w.elim (fun w=>h4 (hc1.2 w)) (fun w=>h5 (hc0.2 w.1))))])⟩,hmu,.trans (.unfocus 1000003 31 [] [] rfl rfl rfl ⟨rfl,rfl⟩) (.le okZ (by cbv;repeat' first|exact trivial|exact lR|exact zB rfl|exact⟨by show (D.fs.map (enc cq)).set i ((D.fs.map (enc cq)).getD i [])=D.fs.map (enc cq);rw[hrow];exact hsame⟩|exact zE om|apply zN) rfl)⟩}
  ·(have h3':b<0:=by have:=h3;dsimp only at this;omega);cbv
   refine uF (by decide) ?_;cbv;refine zT 3 (by cbv) ?_;cbv;refine⟨zC om om,?_⟩;cbv;exact⟨(i+1,(i:Int),t,W),⟨hle,newg,ft,hW,g5.trans (by rw[if_pos (.inl h3')])⟩,hmu,.trans (.unfocus 1000003 31 [] [] rfl rfl rfl ⟨rfl,rfl⟩) (.le okZ (by cbv;repeat' first|exact trivial|exact lR|exact zB rfl|exact⟨by show (D.fs.map (enc cq)).set i ((D.fs.map (enc cq)).getD i [])=D.fs.map (enc cq);rw[hrow];exact hsame⟩|exact zE om|apply zN) rfl)⟩
 ·(have hi:i=D.bs.length:=by (try dsimp only [zI] at *);omega);have hEb:b=E:=by rw[g5,hi,vG];rfl
  subst hEb;cbv;refine jF (.refl _) rfl okR (by rfl) okR ?_;exact lR
end Go.Proofs.YtfainocfaddbdaaGreat
