/- A part of the proof: LsC. -/
import Derived.Test.YtfainocfaddbdaaGreatX39
set_option linter.all false
namespace Go.Proofs.YtfainocfaddbdaaGreat
open Go
set_option maxRecDepth 100000
set_option maxHeartbeats 4000000
theorem nG {α:Type}{p:α→List PV}{n:Nat}{els:List (List D)}{l:List α}{i i':Nat}{a:α}{K:List PV→Prop}(he:els=enc p l)(h:l[i]?=some a)(hi:i'=i)(hf:∀ a,yQ kP (p a)=true)(hn:∀ a,(p a).length=n)(hK:K (p a)):ElOk n (fun _=>els) (fun _=>i') K :=
 zOE i hi (p a) (hf a) (hn a) (by rw[he];unfold enc;rw[List.getElem?_map,h];rfl) hK
theorem zJD {α:Type}{l:List α}{a b:Nat}{x y:α}(ha:l[a]?=some x)(hb:l[b]?=some y)(z:α):z∈(l.set a y).set b x↔z∈l:=by
 have hal:=yR ha
 have hbl:=yR hb
 constructor
 ·intro h
  rcases List.mem_or_eq_of_mem_set h with h | h
  ·rcases List.mem_or_eq_of_mem_set h with h | h
   ·exact h
   ·rw[h];exact List.mem_of_getElem? hb
  ·rw[h];exact List.mem_of_getElem? ha
 ·intro h
  obtain⟨i,hi⟩:=List.mem_iff_getElem?.1 h
  by_cases e1:i=a
  ·subst e1
   rw[hi] at ha
   obtain rfl:=Option.some.inj ha
   exact List.mem_of_getElem? (i:=b) (List.getElem?_set_self (by simpa using hbl))
  ·by_cases e2:i=b
   ·subst e2
    rw[hi] at hb
    obtain rfl:=Option.some.inj hb
    by_cases e3:a=i
    ·exact absurd e3.symm e1
    ·refine List.mem_of_getElem? (i:=a) ?_
     rw[List.getElem?_set_ne (fun e=>e3 e.symm),List.getElem?_set_self hal]
   ·refine List.mem_of_getElem? (i:=i) ?_
    rw[List.getElem?_set_ne (fun e=>e2 e.symm),List.getElem?_set_ne (fun e=>e1 e.symm)]
    exact hi
theorem zM3 {fs gs:List F}(h:∀ f,f∈gs↔f∈fs)(X:Int→Rat):Pts fs X↔Pts gs X:=⟨fun g f hf=>g f ((h f).1 hf),fun g f hf=>g f ((h f).2 hf)⟩
theorem Ans.same {v w:Nat}{fs gs:List F}{ob ob':F}{K L:Nat}{s t:SolR}(hs:Ans v fs ob K s)(ht:Ans w gs ob' L t)(hK:K≤2^30)(hX:∀ X,Pts fs X↔Pts gs X)(ho:∀ X,ob'.at X=ob.at X):zD 25 [slv s,slv t] (.bool (fun _=>true)):=by
 obtain⟨h1,h2⟩:=hs.sem.unique ht.sem hX (show (0:Rat)<1 by decide) fun X=>by rw[ho];grind
 exact zNX (hs.sl.fit.val.mono hK) h1 (by rw[h2];grind)
theorem zCI {P:Prg}(h:P.small=true):P.rows.length≤8∧∃ s:SolR,zD 20 [pgv P] (.tup [slv s,.int .i64 (fun _=>0)]) ∧
  ∀ (a b:Nat) x y,P.rows[a]?=some x→P.rows[b]?=some y→∃ t:SolR,zD 20 [pgv ⟨P.v,(P.rows.set a y).set b x,P.ob⟩] (.tup [slv t,.int .i64 (fun _=>0)])∧zD 25 [slv s,slv t] (.bool (fun _=>true)):=by
 obtain⟨v,fs,ob,rfl,hl,hw⟩:=jO h
 obtain⟨s,hs⟩:=hw.solve
 refine⟨by show (fs.map fA).length≤8;rw[List.length_map];exact hl,s,hs.call,fun a b x y ha hb=>?_⟩
 have ha':(fs.map fA)[a]?=some x:=ha
 have hb':(fs.map fA)[b]?=some y:=hb
 rw[List.getElem?_map] at ha' hb'
 obtain⟨f,hf,rfl⟩:=Option.map_eq_some_iff.1 ha'
 obtain⟨g,hg,rfl⟩:=Option.map_eq_some_iff.1 hb'
 have hm:=zJD hf hg
 have hw2:PW v ((fs.set a g).set b f) ob 2 8:=⟨hw.lv,by rw[List.length_set,List.length_set];exact hw.len,fun u hu=>hw.rows u ((hm u).1 hu),hw.obj,hw.k1,hw.k2,hw.hn⟩
 obtain⟨t,ht⟩:=hw2.solve
 refine⟨t,?_,hs.same ht (by decide) (fun X=>zM3 hm X) fun X=>rfl⟩
 have e:((fs.set a g).set b f).map fA=((fs.map fA).set a (fA g)).set b (fA f):=by rw[List.map_set,List.map_set]
 have:=ht.call
 show zD _ [.agg [.int .i64 (fun _=>(v:Int)),alv (((fs.map fA).set a (fA g)).set b (fA f)),tsv (fA ob).ts,.bool (fun _=>(fA ob).c.neg),nat (fA ob).c.num,nat (fA ob).c.den]] _
 rw[←e]
 exact this
theorem zLX (w:UInt8):nx .i64 (w.toNat:Int)=(w.toNat:Int):=by
 have h:=w.toNat_lt
 unfold nx
 generalize w.toNat=k at *
 simp [IntKind.wrap,IntKind.signed,IntKind.bits]
 omega
theorem zPI (P:Prg)(i k:UInt8)(h:P.bk (2^20)):zD 6 [pgv P,.int .u8 (fun _=>(i.toNat:Int)),.int .u8 (fun _=>(k.toNat:Int))] (.bool (fun _=>true)):=by
 have hz:=h.sz (m:=2^32) (Nat.le_refl _) (by decide)
 have cv:=iL P hz
 obtain⟨tru,htru⟩:∃ b,b=true:=⟨_,rfl⟩
 have ca:=rW htru
 obtain⟨b,hb⟩:∃ b,P.small=b:=⟨_,rfl⟩
 rw[hb] at cv
 have cs:b=true→P.rows.length≤8∧∃ s:SolR,zD 20 [pgv P] (.tup [slv s,.int .i64 (fun _=>0)]) ∧
  ∀ (a b:Nat) x y,P.rows[a]?=some x→P.rows[b]?=some y→∃ t:SolR,zD 20 [pgv ⟨P.v,(P.rows.set a y).set b x,P.ob⟩] (.tup [slv t,.int .i64 (fun _=>0)])∧zD 25 [slv s,slv t] (.bool (fun _=>tru)):=fun e=>by rw[htru];exact zCI (hb.trans e)
 clear hb hz h
 obtain⟨n,us,ob⟩:=P
 obtain⟨ots,oc⟩:=ob
 obtain⟨I,hI⟩:∃ I:Int,(i.toNat:Int)=I:=⟨_,rfl⟩
 obtain⟨J,hJ⟩:∃ I:Int,(k.toNat:Int)=I:=⟨_,rfl⟩
 have hnI:nx .i64 I=(i.toNat:Int):=by rw[←hI];exact zLX i
 have hnJ:nx .i64 J=(k.toNat:Int):=by rw[←hJ];exact zLX k
 rw[hI,hJ]
 refine sF Tryz.f6 ?_
 cbv
 refine cA ca ?_
 cbv
 refine yA (fun e=>?_) (fun e=>by rw[htru] at e;cases e)
 cbv
 refine cA cv ?_
 cbv
 refine xF (fun e2=>?_) (fun e2=>?_)
 rotate_left
 ·cbv
  (refine rC ?_;cbv)
  exact zS rfl
 obtain⟨hlen,s,c1,c2⟩:=cs e2
 clear cs cv ca
 dsimp only at hlen c1 c2
 cbv
 refine zG (fun e3=>?_) (fun e3=>?_)
 ·cbv
  (refine rC ?_;cbv)
  exact zS rfl
 have hpos:0<us.length:=by rw[zM] at e3;(try dsimp only [zL] at *);omega
 cbv
 refine wL cX rfl rfl rfl rfl rfl (sM uE _) (yJ (by exact Int.natCast_nonneg _) (by show ((0+(enc ac us).length:Nat):Int) * 80≤_;rw[zM];(try dsimp only [zL] at *);omega)) rfl ?_
 cbv
 have hne:([]:List (List D)).length+(enc ac us).length=us.length:=by simp [zM]
 obtain⟨A,hA,hAl⟩:∃ A:Nat,irem (nx .i64 I) ((([]:List (List D)).length+(enc ac us).length:Nat):Int)=(A:Int)∧A<us.length:=⟨i.toNat % us.length,by rw[hnI,hne,wW],Nat.mod_lt _ hpos⟩
 obtain⟨B,hB,hBl⟩:∃ A:Nat,irem (nx .i64 J) ((([]:List (List D)).length+(enc ac us).length:Nat):Int)=(A:Int)∧A<us.length:=⟨k.toNat % us.length,by rw[hnJ,hne,wW],Nat.mod_lt _ hpos⟩
 obtain⟨x,hx⟩:=vD hAl
 obtain⟨y,hy⟩:=vD hBl
 obtain⟨t,c3,c4⟩:=c2 A B x y hx hy
 have hel:([]:List (List D))++enc ac us=enc ac us:=rfl
 have hnz:((([]:List (List D)).length+(enc ac us).length:Nat):Int)≠0:=by rw[hne];omega
 have rA:0≤irem (nx .i64 I) ((([]:List (List D)).length+(enc ac us).length:Nat):Int)∧irem (nx .i64 I) ((([]:List (List D)).length+(enc ac us).length:Nat):Int)<((([]:List (List D)).length+(enc ac us).length:Nat):Int)∧0+(irem (nx .i64 I) ((([]:List (List D)).length+(enc ac us).length:Nat):Int)).toNat=A:=by rw[hA,hne];omega
 have rB:0≤irem (nx .i64 J) ((([]:List (List D)).length+(enc ac us).length:Nat):Int)∧irem (nx .i64 J) ((([]:List (List D)).length+(enc ac us).length:Nat):Int)<((([]:List (List D)).length+(enc ac us).length:Nat):Int)∧0+(irem (nx .i64 J) ((([]:List (List D)).length+(enc ac us).length:Nat):Int)).toNat=B:=by rw[hB,hne];omega
 clear c2 hI hJ hnI hnJ
 refine zY 13 (by cbv) ?_
 cbv
 refine⟨wT hnz,wT hnz,?_⟩
 cbv
 refine zNJ 18 17 29 [3,4,5] (by cbv) (by cbv) ?_
 cbv
 refine⟨zR rB.1 rB.2.1,nG hel hy rB.2.2 uN uE ?_⟩
 cbv
 refine⟨zR rA.1 rA.2.1,nG hel hx rA.2.2 uN uE ?_⟩
 cbv
 refine⟨zR rA.1 rA.2.1,nG hel hx rA.2.2 uN uE ?_⟩
 cbv
 obtain⟨z,hz⟩:=vD (show B<(us.set A y).length by rw[List.length_set];exact hBl)
 have es1:((fun _:Unit=>([]:List (List D))++enc ac us) ()).set (0+(irem (nx .i64 I) ((([]:List (List D)).length+(enc ac us).length:Nat):Int)).toNat) (xG (ac y))=enc ac (us.set A y):=by rw[rA.2.2];exact sN ac us A y
 have es2:(((([]:List (List D))++enc ac us).set (0+(irem (nx .i64 I) ((([]:List (List D)).length+(enc ac us).length:Nat):Int)).toNat) (xG (ac y))).set (0+(irem (nx .i64 J) ((([]:List (List D)).length+(enc ac us).length:Nat):Int)).toNat) (xG (ac x)))=enc ac ((us.set A y).set B x):=by rw[rA.2.2,rB.2.2];show ((enc ac us).set A _).set B _=_;rw[sN,sN]
 have es3:((((([]:List (List D))++enc ac us).set (0+(irem (nx .i64 I) ((([]:List (List D)).length+(enc ac us).length:Nat):Int)).toNat) (xG (ac y))).set (0+(irem (nx .i64 J) ((([]:List (List D)).length+(enc ac us).length:Nat):Int)).toNat) (xG (ac x))).drop 0).take (([]:List (List D)).length+(enc ac us).length)=enc ac ((us.set A y).set B x):=by rw[es2,List.drop_zero,hne,List.take_of_length_le (by rw[zM,List.length_set,List.length_set];exact Nat.le_refl _)]
 have es4:0+(([]:List (List D)).length+(enc ac us).length)≤((((([]:List (List D))++enc ac us).set (0+(irem (nx .i64 I) ((([]:List (List D)).length+(enc ac us).length:Nat):Int)).toNat) (xG (ac y))).set (0+(irem (nx .i64 J) ((([]:List (List D)).length+(enc ac us).length:Nat):Int)).toNat) (xG (ac x)))).length:=by rw[es2,hne,zM,List.length_set,List.length_set];omega
 refine⟨zR rB.1 rB.2.1,nG (l:=us.set A y) (by exact es1) hz rB.2.2 uN uE ?_⟩
 cbv
 obtain⟨st,val,pt,du,ry,bas,pv⟩:=s
 obtain⟨st2,val2,pt2,du2,ry2,bas2,pv2⟩:=t
 try unfold slv at c1
 try unfold slv at c3
 try unfold slv at c4
 dsimp only at c1 c3 c4
 obtain⟨Z,hZ⟩:∃ Z,zK val=Z:=⟨_,rfl⟩
 obtain⟨Z2,hZ2⟩:∃ Z,zK val2=Z:=⟨_,rfl⟩
 rw[hZ] at c1 c4
 rw[hZ2] at c3 c4
 clear hZ hZ2
 refine cA c1 ?_
 cbv
 refine qJ (.frz 29 rfl rfl (by cbv;repeat' first | exact trivial | exact yD es4 | apply And.intro) (by cbv;repeat' first | exact trivial | exact yD es4 | apply And.intro)) rfl (by exact⟨⟨lR,zX es3,lR,lR,lR,lR,trivial⟩,trivial⟩) c3 rfl ?_
 cbv
 refine xO rfl ?_
 cbv
 refine xO rfl ?_
 cbv
 refine cA c4 ?_
 cbv
 (refine rC ?_;cbv)
 exact zI htru
end Go.Proofs.YtfainocfaddbdaaGreat
