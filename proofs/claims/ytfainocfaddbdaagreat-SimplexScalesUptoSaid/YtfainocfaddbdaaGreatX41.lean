/- A part of the proof: LsE. -/
import Derived.Test.YtfainocfaddbdaaGreatX40
set_option linter.all false
namespace Go.Proofs.YtfainocfaddbdaaGreat
open Go
set_option maxRecDepth 100000
set_option maxHeartbeats 4000000
theorem zIF {fs:List F}{i:Nat}{f:F}{w:Rat}(hw:0<w)(hf:fs[i]?=some f)(X:Int→Rat):Pts fs X↔Pts (fs.set i (f.scale w)) X:=by
 have hil:=yR hf
 constructor
 ·intro h g hg
  rcases List.mem_or_eq_of_mem_set hg with hg | rfl
  ·exact h g hg
  ·rw[cS,Rat.mul_comm];exact Rat.mul_nonneg (Rat.le_of_lt hw) (h f (List.mem_of_getElem? hf))
 ·intro h g hg
  obtain⟨j,hj⟩:=List.mem_iff_getElem?.1 hg
  by_cases e:j=i
  ·subst e
   rw[hf] at hj
   obtain rfl:=Option.some.inj hj
   have:=h _ (List.mem_of_getElem? (i:=j) (List.getElem?_set_self hil))
   rw[cS,Rat.mul_comm] at this
   exact rI (k:=w) hw (by rw[Rat.mul_zero];exact this)
  ·exact h g (List.mem_of_getElem? (i:=j) (by rw[List.getElem?_set_ne (fun h=>e h.symm)];exact hj))
def SolR.by (s:SolR) (w:Rat):SolR:={ s with val:=s.val * w }
theorem zBC {P:Prg}(h:P.small=true){w:Rat}(hw:0<w)(hf:Fits 1 w):P.rows.length≤8∧∃ (s:SolR) (O:A),zD 20 [pgv P] (.tup [slv s,.int .i64 (fun _=>0)])∧zD 27 [av P.ob,rv (zK w)] (av O) ∧
  zD 28 [rv (zK s.val),rv (zK w)] (rv (zK (s.by w).val)) ∧
  (P.rows=[]→∃ t:SolR,zD 20 [pgv ⟨P.v,P.rows,O⟩] (.tup [slv t,.int .i64 (fun _=>0)])∧zD 25 [slv (s.by w),slv t] (.bool (fun _=>true))) ∧
  ∀ (i:Nat) x,P.rows[i]?=some x→∃ (y:A) (t:SolR),zD 27 [av x,rv (zK w)] (av y)∧zD 20 [pgv ⟨P.v,P.rows.set i y,O⟩] (.tup [slv t,.int .i64 (fun _=>0)])∧zD 25 [slv (s.by w),slv t] (.bool (fun _=>true)):=by
 obtain⟨v,fs,ob,rfl,hl,hp⟩:=jO h
 obtain⟨s,hs⟩:=hp.solve
 have hob:(ob.scale w).fl 5 8∧(ob.scale w).wf (v:Int):=⟨(hp.obj.1.scale hf).mono (by omega) (Nat.le_refl _),hp.obj.2.scale⟩
 have hrow:∀ f,f∈fs→f.fl 5 8∧f.wf (v:Int):=fun f hf=>⟨(hp.rows f hf).1.mono (by omega) (Nat.le_refl _),(hp.rows f hf).2⟩
 have hval:Fits (2^30) s.val:=hs.sl.fit.val.mono (by decide)
 have hval2:Fits (2^30) (s.by w).val:=(wO (hs.sl.fit.val) hf).mono (by decide)
 have same:∀ {gs:List F} {K:Nat} {t:SolR},Ans v gs (ob.scale w) K t→(∀ X,Pts fs X↔Pts gs X)→zD 25 [slv (s.by w),slv t] (.bool (fun _=>true)):=fun ht hX=>by
  obtain⟨h1,h2⟩:=hs.sem.unique ht.sem hX hw fun X=>by rw[cS];exact Rat.mul_comm _ _
  exact zNX hval2 h1 (by rw[h2];exact Rat.mul_comm _ _)
 refine⟨by show (fs.map fA).length≤8;rw[List.length_map];exact hl,s,fA (ob.scale w),hs.call,p4 hp.obj.1 hf (by decide) (by decide) (by decide),?_,fun hn=>?_,fun i x hx=>?_⟩
 ·have:=s77 (zK s.val) (zK w) ((z7 hval).mono (by decide)) ((z7 hf).mono (by decide))
  rw[yN,yN] at this
  exact this
 ·have hfs:fs=[]:=List.map_eq_nil_iff.1 hn
  obtain⟨t,ht⟩:=(show PW v fs (ob.scale w) 5 8 from ⟨hp.lv,hp.len,hrow,hob,by decide,by decide,by decide⟩).solve
  exact⟨t,ht.call,same ht fun X=>Iff.rfl⟩
 ·have hx':(fs.map fA)[i]?=some x:=hx
  rw[List.getElem?_map] at hx'
  obtain⟨f,hff,rfl⟩:=Option.map_eq_some_iff.1 hx'
  have hfm:=List.mem_of_getElem? hff
  obtain⟨t,ht⟩:=(show PW v (fs.set i (f.scale w)) (ob.scale w) 5 8 from ⟨hp.lv,by rw[List.length_set];exact hp.len,fun g hg=>by
   rcases List.mem_or_eq_of_mem_set hg with hg | rfl
   ·exact hrow g hg
   ·exact⟨((hp.rows f hfm).1.scale hf).mono (by omega) (Nat.le_refl _),(hp.rows f hfm).2.scale⟩,hob,by decide,by decide,by decide⟩).solve
  refine⟨fA (f.scale w),t,p4 (hp.rows f hfm).1 hf (by decide) (by decide) (by decide),?_,same ht fun X=>zIF hw hff X⟩
  have e:(fs.set i (f.scale w)).map fA=(fs.map fA).set i (fA (f.scale w)):=by rw[List.map_set]
  have:=ht.call
  show zD _ [.agg [.int .i64 (fun _=>(v:Int)),alv ((fs.map fA).set i (fA (f.scale w))),tsv (fA (ob.scale w)).ts,.bool (fun _=>(fA (ob.scale w)).c.neg),nat (fA (ob.scale w)).c.num,nat (fA (ob.scale w)).c.den]] _
  rw[←e]
  exact this
theorem zPE (P:Prg)(i k:UInt8)(h:P.bk (2^20)):zD 7 [pgv P,.int .u8 (fun _=>(i.toNat:Int)),.int .u8 (fun _=>(k.toNat:Int))] (.bool (fun _=>true)):=by
 have hz:=h.sz (m:=2^32) (Nat.le_refl _) (by decide)
 have cv:=iL P hz
 obtain⟨tru,htru⟩:∃ b,b=true:=⟨_,rfl⟩
 have ca:=rW htru
 obtain⟨b,hb⟩:∃ b,P.small=b:=⟨_,rfl⟩
 rw[hb] at cv
 obtain⟨w,hwe⟩:∃ w:Rat,(((1+((k.toNat % 7:Nat):Int):Int)):Rat)=w:=⟨_,rfl⟩
 have hk7:k.toNat % 7<7:=Nat.mod_lt _ (by decide)
 have co:=s32 (1+((k.toNat % 7:Nat):Int)) (by omega) (by omega)
 rw[hwe] at co
 have hw0:0<w:=by
  rw[←hwe]
  have:(0:Int)<1+((k.toNat % 7:Nat):Int):=by omega
  exact_mod_cast this
 have hwf:Fits 1 w:=by rw[←hwe];exact j6 (by unfold B;omega) (Nat.le_refl 1)
 obtain⟨W,hW⟩:∃ W,zK w=W:=⟨_,rfl⟩
 have cs:b=true→P.rows.length≤8∧∃ (s:SolR) (O:A) (Y:R),zD 20 [pgv P] (.tup [slv s,.int .i64 (fun _=>0)])∧zD 27 [av P.ob,rv W] (av O) ∧
  zD 28 [rv (zK s.val),rv W] (rv Y) ∧
  (P.rows=[]→∃ t:SolR,zD 20 [pgv ⟨P.v,P.rows,O⟩] (.tup [slv t,.int .i64 (fun _=>0)])∧zD 25 [.agg [.int .i64 (fun _=>(s.st:Int)),.bool (fun _=>Y.neg),nat Y.num,nat Y.den,qlv s.pt,qlv s.du,qlv s.ry,ilv s.bas,.int .i64 (fun _=>(s.pv:Int))],slv t] (.bool (fun _=>tru))) ∧
  ∀ (i:Nat) x,P.rows[i]?=some x→∃ (y:A) (t:SolR),zD 27 [av x,rv W] (av y)∧zD 20 [pgv ⟨P.v,P.rows.set i y,O⟩] (.tup [slv t,.int .i64 (fun _=>0)])∧zD 25 [.agg [.int .i64 (fun _=>(s.st:Int)),.bool (fun _=>Y.neg),nat Y.num,nat Y.den,qlv s.pt,qlv s.du,qlv s.ry,ilv s.bas,.int .i64 (fun _=>(s.pv:Int))],slv t] (.bool (fun _=>tru)):=fun e=>by
  rw[htru,←hW]
  obtain⟨h1,s,O,h2,h3,h4,h5,h6⟩:=zBC (hb.trans e) hw0 hwf
  exact⟨h1,s,O,zK (s.by w).val,h2,h3,h4,h5,h6⟩
 rw[hW] at co
 have hJ7:nx .i64 (irem (k.toNat:Int) 7)=((k.toNat % 7:Nat):Int):=by
  rw[show irem (k.toNat:Int) 7=((k.toNat % 7:Nat):Int) from wW (b:=7)]
  exact aF (by omega) (by omega)
 clear hb hz h hwe hw0 hwf hW
 obtain⟨n,us,ob⟩:=P
 obtain⟨ots,oc⟩:=ob
 have hnI:nx .i64 (i.toNat:Int)=(i.toNat:Int):=zLX i
 have hnat:irem (i.toNat:Int) (us.length:Int)=((i.toNat % us.length:Nat):Int):=wW
 obtain⟨I,hI⟩:∃ I:Int,(i.toNat:Int)=I:=⟨_,rfl⟩
 obtain⟨J,hJ⟩:∃ I:Int,(k.toNat:Int)=I:=⟨_,rfl⟩
 rw[hI] at hnI hnat
 rw[hJ] at hJ7
 rw[hI,hJ]
 refine sF Tryz.f7 ?_
 cbv
 refine cA ca ?_
 cbv
 refine yA (fun e=>?_) (fun e=>by rw[htru] at e;cases e)
 cbv
 refine cA cv ?_
 cbv
 refine yA (fun e2=>?_) (fun e2=>?_)
 rotate_left
 ·cbv
  (refine rC ?_;cbv)
  exact zS rfl
 obtain⟨hlen,s,O,Y,c1,c2,c3,c4,c5⟩:=cs e2
 clear cs cv ca
 dsimp only at hlen c1 c2 c4 c5
 obtain⟨st,val,pt,du,ry,bas,pv⟩:=s
 try unfold slv at c1
 dsimp only at c1 c3 c4 c5
 obtain⟨Z,hZ⟩:∃ Z,zK val=Z:=⟨_,rfl⟩
 rw[hZ] at c1 c3
 clear hZ
 obtain⟨o2s,o2c⟩:=O
 have hne:([]:List (List D)).length+(enc ac us).length=us.length:=by simp [zM]
 have hin:1+nx .i64 (irem J 7)=1+((k.toNat % 7:Nat):Int):=by rw[hJ7]
 have hib:-9223372036854775808≤1+nx .i64 (irem J 7)∧1+nx .i64 (irem J 7)≤9223372036854775807:=by rw[hJ7];omega
 cbv
 refine⟨wT (by decide),zF hib.1 hib.2,xX rfl (by exact⟨zC hin,trivial⟩) co rfl ?_⟩
 cbv
 refine wL cX rfl rfl rfl rfl rfl (sM uE _) (yJ (by exact Int.natCast_nonneg _) (by show ((0+(enc ac us).length:Nat):Int) * 80≤_;rw[zM];(try dsimp only [zL] at *);omega)) rfl ?_
 cbv
 refine j9 (σ:=List A) (fun r=>⟨[(3,.ptr 3 0),(7,.ptr 7 0),(8,.ptr 8 0)],[(3,.box [.int .i64 (fun _=>n),alv us,tsv ots,.bool (fun _=>oc.neg),nat oc.num,nat oc.den]),(7,.box [.bool (fun _=>W.neg),nat W.num,nat W.den]),(8,.box [.int .i64 (fun _=>n),.osl 28 4 (fun _=>0) (fun _=>us.length),tsv ots,.bool (fun _=>oc.neg),nat oc.num,nat oc.den]),(28,.arr 4 (fun _=>enc ac r))]⟩)
  (fun r=>r.length=us.length∧∃ t:SolR,zD 20 [pgv ⟨n,r,⟨o2s,o2c⟩⟩] (.tup [slv t,.int .i64 (fun _=>0)])∧zD 25 [.agg [.int .i64 (fun _=>(st:Int)),.bool (fun _=>Y.neg),nat Y.num,nat Y.den,qlv pt,qlv du,qlv ry,ilv bas,.int .i64 (fun _=>(pv:Int))],slv t] (.bool (fun _=>tru))) (fun h=>?_) (fun h=>?_) (fun r hr=>?_)
 ·have hpos:0<us.length:=by simp only[zM] at h;(try dsimp only [zL] at *);simp only[List.length_nil] at h;omega
  obtain⟨A0,hA,hAl⟩:∃ A0:Nat,irem (nx .i64 I) ((([]:List (List D)).length+(enc ac us).length:Nat):Int)=(A0:Int)∧A0<us.length:=⟨i.toNat % us.length,by rw[hnI,hne,hnat],Nat.mod_lt _ hpos⟩
  obtain⟨x,hx⟩:=vD hAl
  obtain⟨y,t,d1,d2,d3⟩:=c5 A0 x hx
  have hnz:((([]:List (List D)).length+(enc ac us).length:Nat):Int)≠0:=by rw[hne];omega
  have rA:0≤irem (nx .i64 I) ((([]:List (List D)).length+(enc ac us).length:Nat):Int)∧irem (nx .i64 I) ((([]:List (List D)).length+(enc ac us).length:Nat):Int)<((([]:List (List D)).length+(enc ac us).length:Nat):Int)∧0+(irem (nx .i64 I) ((([]:List (List D)).length+(enc ac us).length:Nat):Int)).toNat=A0:=by rw[hA,hne];omega
  have hel:([]:List (List D))++enc ac us=enc ac us:=rfl
  have es1:(([]:List (List D))++enc ac us).set (0+(irem (nx .i64 I) ((([]:List (List D)).length+(enc ac us).length:Nat):Int)).toNat) (xG (ac y))=enc ac (us.set A0 y):=by rw[rA.2.2];exact sN ac us A0 y
  have hg:(us.set A0 y).length=us.length∧∃ t:SolR,zD 20 [pgv ⟨n,us.set A0 y,⟨o2s,o2c⟩⟩] (.tup [slv t,.int .i64 (fun _=>0)])∧zD 25 [.agg [.int .i64 (fun _=>(st:Int)),.bool (fun _=>Y.neg),nat Y.num,nat Y.den,qlv pt,qlv du,qlv ry,ilv bas,.int .i64 (fun _=>(pv:Int))],slv t] (.bool (fun _=>tru)):=⟨List.length_set,t,d2,d3⟩
  obtain⟨R',hR'⟩:∃ r,us.set A0 y=r:=⟨_,rfl⟩
  rw[hR'] at es1 hg
  obtain⟨xts,xc⟩:=x
  obtain⟨yts,yc⟩:=y
  clear c5 c4 d2 d3 hR'
  cbv
  refine⟨wT hnz,?_⟩
  cbv
  refine zY 10 (by cbv) ?_
  cbv
  refine⟨zR rA.1 rA.2.1,nG hel hx rA.2.2 uN uE ?_⟩
  cbv
  refine dA d1 ?_
  cbv
  refine⟨zR rA.1 rA.2.1,nG hel hx rA.2.2 uN uE ?_⟩
  cbv
  exact⟨R',hg,.le okZ (by cbv;exact⟨okA,okA,⟨lR,yC rfl hne,lR,lR,lR,lR,trivial⟩,zB (by exact es1),trivial⟩) rfl⟩
 ·have h0:us.length=0:=by simp only[zM] at h;(try dsimp only [zL] at *);simp only[List.length_nil] at h;omega
  have hg:=c4 (List.eq_nil_of_length_eq_zero h0)
  clear c5 c4
  cbv
  exact⟨us,⟨rfl,hg⟩,.le okZ (by cbv;exact⟨okA,okA,⟨lR,yC rfl hne,lR,lR,lR,lR,trivial⟩,zB rfl,trivial⟩) rfl⟩
 obtain⟨hrl,t,d1,d2⟩:=hr
 obtain⟨st2,val2,pt2,du2,ry2,bas2,pv2⟩:=t
 try unfold slv at d1
 try unfold slv at d2
 dsimp only at d1 d2
 obtain⟨Z2,hZ2⟩:∃ Z,zK val2=Z:=⟨_,rfl⟩
 rw[hZ2] at d1 d2
 have es3:((enc ac r).drop 0).take us.length=enc ac r:=by rw[List.drop_zero,List.take_of_length_le (by rw[zM,hrl];exact Nat.le_refl _)]
 have es4:0+us.length≤(enc ac r).length:=by rw[zM,hrl];omega
 clear c4 c5 hZ2
 cbv
 refine cA c2 ?_
 cbv
 refine cA c1 ?_
 cbv
 refine qJ (.frz 28 rfl rfl (by cbv;repeat' first | exact trivial | exact yD es4 | apply And.intro) (by cbv;repeat' first | exact trivial | exact yD es4 | apply And.intro)) rfl (by exact⟨⟨lR,zX es3,lR,lR,lR,lR,trivial⟩,trivial⟩) d1 rfl ?_
 cbv
 refine cA c3 ?_
 cbv
 refine xO rfl ?_
 cbv
 refine xO rfl ?_
 cbv
 refine cA d2 ?_
 cbv
 (refine rC ?_;cbv)
 exact zI htru
end Go.Proofs.YtfainocfaddbdaaGreat
