/- A part of the proof: LsH. -/
import Derived.Test.YtfainocfaddbdaaGreatX42
set_option linter.all false
namespace Go.Proofs.YtfainocfaddbdaaGreat
open Go
set_option maxRecDepth 100000
set_option maxHeartbeats 4000000
def r4 (b:UInt8):Rat:=((((b.toNat % 4:Nat):Int):Rat))
def rdF:List F→List UInt8→F→F
 | f::fs,b::bs,acc=>rdF fs bs (acc.add (f.scale (r4 b)))
 | _,_,acc=>acc
theorem iY {ms:List UInt8}{acc:F}:rdF [] ms acc=acc:=by unfold rdF;rfl
theorem iX {fs:List F}{acc:F}:rdF fs [] acc=acc:=by cases fs <;> (unfold rdF;rfl)
theorem zQ0 (b:UInt8):(0:Rat)≤r4 b:=by
 show (0:Rat)≤((((b.toNat % 4:Nat):Int):Rat))
 have:(0:Int)≤((b.toNat % 4:Nat):Int):=by omega
 exact_mod_cast this
theorem zBU (b:UInt8):Fits 1 (r4 b):=j6 (by have:b.toNat % 4<4:=Nat.mod_lt _ (by decide);unfold B;omega) (Nat.le_refl 1)
theorem zK5 {X:Int→Rat}:∀ {fs:List F} {ms:List UInt8} {acc:F},Pts fs X→0≤acc.at X→0≤(rdF fs ms acc).at X
 | [],ms,acc,_,h=>by rw[iY];exact h
 | f::fs,[],acc,_,h=>by rw[iX];exact h
 | f::fs,b::bs,acc,hX,h=>by
  unfold rdF
  refine zK5 (fun g hg=>hX g (List.mem_cons_of_mem _ hg)) ?_
  rw[zLM,cS]
  have:=Rat.mul_nonneg (hX f List.mem_cons_self) (zQ0 b)
  grind
theorem zK4 {v:Int}:∀ {fs:List F} {ms:List UInt8} {acc:F} {k n:Nat},(∀ f,f∈fs→f.fl 2 8∧f.wf v)→acc.fl k n∧acc.wf v→(rdF fs ms acc).fl (k+7 * fs.length) (n+8 * fs.length)∧(rdF fs ms acc).wf v
 | [],ms,acc,k,n,_,h=>by rw[iY];exact⟨h.1.mono (by omega) (by omega),h.2⟩
 | f::fs,[],acc,k,n,_,h=>by rw[iX];exact⟨h.1.mono (by omega) (by omega),h.2⟩
 | f::fs,b::bs,acc,k,n,hf,h=>by
  unfold rdF
  have h1:=hf f List.mem_cons_self
  obtain⟨g1,g2⟩:=zK4 (fs:=fs) (ms:=bs) (acc:=acc.add (f.scale (r4 b))) (k:=k+7) (n:=n+8) (fun g hg=>hf g (List.mem_cons_of_mem _ hg)) ⟨(h.1.add (h1.1.scale (zBU b))).mono (by omega) (Nat.le_refl _),h.2.add h1.2.scale⟩
  exact⟨g1.mono (by rw[List.length_cons];omega) (by rw[List.length_cons];omega),g2⟩
theorem zPG (P:Prg)(ms:List UInt8)(c:UInt8)(h:P.bk (2^20))(hms:ms.length≤2^20):zD 8 [pgv P,u8l ms,.int .u8 (fun _=>(c.toNat:Int))] (.bool (fun _=>true)):=by
 have hz:=h.sz (m:=2^32) (Nat.le_refl _) (by decide)
 have cv:=iL P hz
 obtain⟨tru,htru⟩:∃ b,b=true:=⟨_,rfl⟩
 have ca:=rW htru
 obtain⟨b,hb⟩:∃ b,P.small=b:=⟨_,rfl⟩
 rw[hb] at cv
 have hk5:c.toNat % 5<5:=Nat.mod_lt _ (by decide)
 have co:=s32 ((c.toNat % 5:Nat):Int) (by omega) (by omega)
 obtain⟨w,hwe⟩:∃ w:Rat,((((c.toNat % 5:Nat):Int)):Rat)=w:=⟨_,rfl⟩
 rw[hwe] at co
 have hw0:0≤w:=by
  rw[←hwe]
  have:(0:Int)≤((c.toNat % 5:Nat):Int):=by omega
  exact_mod_cast this
 have hwf:Fits 1 w:=by rw[←hwe];exact j6 (by unfold B;omega) (Nat.le_refl 1)
 have hC5:nx .i64 (irem (c.toNat:Int) 5)=((c.toNat % 5:Nat):Int):=by
  rw[show irem (c.toNat:Int) 5=((c.toNat % 5:Nat):Int) from wW (b:=5)]
  exact aF (by omega) (by omega)
 have hb4:∀ b:UInt8,nx .i64 (irem (b.toNat:Int) 4)=((b.toNat % 4:Nat):Int):=fun b=>by
  have:=Nat.mod_lt b.toNat (show 0<4 by decide)
  rw[show irem (b.toNat:Int) 4=((b.toNat % 4:Nat):Int) from wW (b:=4)]
  exact aF (by omega) (by omega)
 have cs:=fun e=>jO (hb.trans e)
 have hwA:fA (F.num w)=⟨[],zK w⟩:=rfl
 obtain⟨W,hW⟩:∃ W,zK w=W:=⟨_,rfl⟩
 rw[hW] at co hwA
 clear hb hz h hwe hW
 obtain⟨n,us,ob⟩:=P
 obtain⟨ots,oc⟩:=ob
 obtain⟨J,hJ⟩:∃ I:Int,(c.toNat:Int)=I:=⟨_,rfl⟩
 rw[hJ] at hC5
 rw[hJ]
 clear hJ
 refine sF Tryz.f8 ?_
 cbv
 refine cA ca ?_
 cbv
 refine yA (fun e=>?_) (fun e=>by rw[htru] at e;cases e)
 cbv
 refine cA cv ?_
 cbv
 refine xF (fun e2=>?_) (fun e2=>?_)
 rotate_left
 ·cbv
  (refine rC ?_;cbv)
  exact zS rfl
 obtain⟨v,fs,ob',hP,hl8,hp⟩:=cs e2
 clear cs cv ca
 cbv
 refine zG (fun e3=>?_) (fun e3=>?_)
 ·cbv
  (refine rC ?_;cbv)
  exact zS rfl
 have hm8:ms.length≤8:=okQ
 have hn:n=(v:Int):=congrArg Prg.v hP
 have hus:us=fs.map fA:=congrArg Prg.rows hP
 have hob:(⟨ots,oc⟩:A)=fA ob':=congrArg Prg.ob hP
 have hUl:us.length=fs.length:=by rw[hus,List.length_map]
 have hget:∀ (i:Nat) f,fs[i]?=some f→us[i]?=some (fA f):=fun i f hf=>by rw[hus,List.getElem?_map,hf];rfl
 obtain⟨T,hT⟩:∃ T,rdF fs ms (F.num w)=T:=⟨_,rfl⟩
 have hn0:(F.num w).fl 1 0∧(F.num w).wf (v:Int):=⟨⟨fun t ht=>absurd ht (by simp [F.num]),hwf,Nat.le_refl _⟩,F.wf.num w _⟩
 have hTo:=zK4 (ms:=ms) hp.rows hn0
 rw[hT] at hTo
 have hTp:∀ X,Pts fs X↔Pts (fs++[T]) X:=fun X=>⟨fun hX f hf=>by
  rcases List.mem_append.1 hf with hf | hf
  ·exact hX f hf
  ·have:f=T:=by simpa using hf
   rw[this,←hT]
   exact zK5 hX (by rw[zQE];exact hw0),fun hX f hf=>hX f (List.mem_append_left _ hf)⟩
 obtain⟨s,hs⟩:=hp.solve
 have hp2:PW v (fs++[T]) ob' 60 64:=⟨hp.lv,by rw[List.length_append];show fs.length+1≤9;omega,fun f hf=>by
  rcases List.mem_append.1 hf with hf | hf
  ·exact⟨(hp.rows f hf).1.mono (by omega) (by omega),(hp.rows f hf).2⟩
  ·have:f=T:=by simpa using hf
   rw[this]
   exact⟨hTo.1.mono (by omega) (by omega),hTo.2⟩,⟨hp.obj.1.mono (by omega) (by omega),hp.obj.2⟩,by decide,by decide,by decide⟩
 obtain⟨t,ht⟩:=hp2.solve
 have c1:zD 20 [pgv ⟨n,us,⟨ots,oc⟩⟩] (.tup [slv s,.int .i64 (fun _=>0)]):=by rw[hP];exact hs.call
 have c2:zD 20 [pgv ⟨n,us++[fA T],⟨ots,oc⟩⟩] (.tup [slv t,.int .i64 (fun _=>0)]):=by
  have:=ht.call
  have e:prg v (fs++[T]) ob'=⟨n,us++[fA T],⟨ots,oc⟩⟩:=by rw[hn,hus,hob];show (⟨(v:Int),(fs++[T]).map fA,fA ob'⟩:Prg)=_;rw[List.map_append];rfl
  rw[e] at this
  exact this
 have c3:zD 25 [slv s,slv t] (.bool (fun _=>tru)):=by rw[htru];exact hs.same ht (by decide) hTp fun X=>rfl
 have st:∀ (i:Nat) (acc:F) f (b:UInt8),fs[i]?=some f→acc.fl (1+7 * i) (8 * i)∧acc.wf (v:Int) →
   zD 26 [.int .i64 (fun _=>((b.toNat % 4:Nat):Int))] (rv (zK (r4 b)))∧zD 27 [av (fA f),rv (zK (r4 b))] (av (fA (f.scale (r4 b)))) ∧
   zD 29 [av (fA acc),av (fA (f.scale (r4 b)))] (av (fA (acc.add (f.scale (r4 b)))))∧(acc.add (f.scale (r4 b))).fl (1+7 * (i+1)) (8 * (i+1))∧(acc.add (f.scale (r4 b))).wf (v:Int):=fun i acc f b hf ha=>by
  have h5:=hp.rows f (List.mem_of_getElem? hf)
  have hi:=yR hf
  have h7:=h5.1.scale (zBU b)
  have:=Nat.mod_lt b.toNat (show 0<4 by decide)
  exact⟨s32 _ (by omega) (by omega),p4 h5.1 (zBU b) (by decide) (by decide) (by decide),zN5 ha.2.cn h5.2.scale.cn ha.1 h7 (by omega) (by decide) (by omega) (by decide),(ha.1.add h7).mono (by omega) (by omega),ha.2.add h5.2.scale⟩
 have h00:∃ acc:F,fA acc=⟨[],W⟩∧(acc.fl (1+7 * 0) (8 * 0)∧acc.wf (v:Int))∧rdF (fs.drop 0) (ms.drop 0) acc=T:=⟨F.num w,hwA,hn0,hT⟩
 clear hs ht hTp hTo hT hn0 hP hn hus hob hwA hw0 hwf hp hp2
 obtain⟨st1,val,pt,du,ry,bas,pv⟩:=s
 obtain⟨st2,val2,pt2,du2,ry2,bas2,pv2⟩:=t
 try unfold slv at c1
 try unfold slv at c2
 try unfold slv at c3
 dsimp only at c1 c2 c3
 obtain⟨Z,hZ⟩:∃ Z,zK val=Z:=⟨_,rfl⟩
 obtain⟨Z2,hZ2⟩:∃ Z,zK val2=Z:=⟨_,rfl⟩
 rw[hZ] at c1 c3
 rw[hZ2] at c2 c3
 clear hZ hZ2
 cbv
 refine⟨wT (by decide),xX rfl (by exact⟨zC hC5,trivial⟩) co rfl ?_⟩
 cbv
 refine z9 (σ:=Nat × A) (fun s=>⟨[(1,u8l ms),(3,.ptr 3 0),(7,.ptr 7 0),(8,.int .i64 (fun _=>(s.1:Int)))],[(3,.box [.int .i64 (fun _=>n),alv us,tsv ots,.bool (fun _=>oc.neg),nat oc.num,nat oc.den]),(7,.box [tsv s.2.ts,.bool (fun _=>s.2.c.neg),nat s.2.c.num,nat s.2.c.den])]⟩)
  (fun s=>s.1≤us.length∧∃ acc:F,fA acc=s.2∧(acc.fl (1+7 * s.1) (8 * s.1)∧acc.wf (v:Int))∧rdF (fs.drop s.1) (ms.drop s.1) acc=T) (fun s=>us.length - s.1) (0,⟨[],W⟩) ⟨Nat.zero_le _,h00⟩ (.le okZ (by cbv;repeat' first | exact trivial | exact lR | exact zQ rfl | apply And.intro) rfl) ?_
 clear h00
 intro s hs
 obtain⟨i,a⟩:=s
 obtain⟨h1,acc,hacc,g1,g2⟩:=hs
 dsimp only at h1 hacc g1 g2
 have fin:(us.length≤i∨ms.length≤i)→fA T=a:=fun hh=>by
  rw[←hacc,←g2]
  rcases hh with hh | hh
  ·rw[List.drop_eq_nil_of_le (by omega),iY]
  ·rw[List.drop_eq_nil_of_le hh,iX]
 cbv
 refine yG (fun h5=>?_) (fun h5=>?_)
 rotate_left
 ·have ha:=fin (.inl okQ)
  rw[ha] at c2
  clear fin st g1 g2 hacc hb4 hget
  have hel:enc ac us++yO [ac a]=enc ac (us++[a]):=by simp [enc,yO]
  have es3:((enc ac us++yO [ac a]).drop 0).take ((enc ac us).length+(yO [ac a]).length)=enc ac (us++[a]):=by rw[hel,List.drop_zero,List.take_of_length_le (by rw[zM,zM];simp [yO])]
  have es4:0+((enc ac us).length+(yO [ac a]).length)≤(enc ac us++yO [ac a]).length:=by rw[List.length_append];omega
  cbv
  refine cQ 6 [(3,61)] (.fresh 61 4 rfl) (by cbv) (by cbv) ?_
  cbv
  refine oG cX rfl (sM uE _) (yJ (by exact Int.natCast_nonneg _) (by simp only[zM];(try dsimp only [zL] at *);omega)) ?_
  cbv
  refine wL cX rfl rfl rfl rfl rfl ⟨by simp [yO,xG]⟩ (yJ (by exact Int.natCast_nonneg _) (by show (((enc ac us).length+1:Nat):Int) * 80≤_;rw[zM];(try dsimp only [zL] at *);omega)) rfl ?_
  cbv
  refine cA c1 ?_
  cbv
  refine qJ (.frz 64 rfl rfl (by cbv;repeat' first | exact trivial | exact yD es4 | apply And.intro) (by cbv;repeat' first | exact trivial | exact yD es4 | apply And.intro)) rfl (by exact⟨⟨lR,zX es3,lR,lR,lR,lR,trivial⟩,trivial⟩) c2 rfl ?_
  cbv
  refine xO rfl ?_
  cbv
  refine xO rfl ?_
  cbv
  refine cA c3 ?_
  cbv
  (refine rC ?_;cbv)
  exact zI htru
 cbv
 refine zG (fun h6=>?_) (fun h6=>?_)
 rotate_left
 ·have ha:=fin (.inr okQ)
  rw[ha] at c2
  clear fin st g1 g2 hacc hb4 hget
  have hel:enc ac us++yO [ac a]=enc ac (us++[a]):=by simp [enc,yO]
  have es3:((enc ac us++yO [ac a]).drop 0).take ((enc ac us).length+(yO [ac a]).length)=enc ac (us++[a]):=by rw[hel,List.drop_zero,List.take_of_length_le (by rw[zM,zM];simp [yO])]
  have es4:0+((enc ac us).length+(yO [ac a]).length)≤(enc ac us++yO [ac a]).length:=by rw[List.length_append];omega
  cbv
  refine cQ 6 [(3,61)] (.fresh 61 4 rfl) (by cbv) (by cbv) ?_
  cbv
  refine oG cX rfl (sM uE _) (yJ (by exact Int.natCast_nonneg _) (by simp only[zM];(try dsimp only [zL] at *);omega)) ?_
  cbv
  refine wL cX rfl rfl rfl rfl rfl ⟨by simp [yO,xG]⟩ (yJ (by exact Int.natCast_nonneg _) (by show (((enc ac us).length+1:Nat):Int) * 80≤_;rw[zM];(try dsimp only [zL] at *);omega)) rfl ?_
  cbv
  refine cA c1 ?_
  cbv
  refine qJ (.frz 64 rfl rfl (by cbv;repeat' first | exact trivial | exact yD es4 | apply And.intro) (by cbv;repeat' first | exact trivial | exact yD es4 | apply And.intro)) rfl (by exact⟨⟨lR,zX es3,lR,lR,lR,lR,trivial⟩,trivial⟩) c2 rfl ?_
  cbv
  refine xO rfl ?_
  cbv
  refine xO rfl ?_
  cbv
  refine cA c3 ?_
  cbv
  (refine rC ?_;cbv)
  exact zI htru
 have hlt:i<us.length:=okQ
 have hlm:i<ms.length:=okQ
 obtain⟨f,hff⟩:=zU (show i<fs.length by omega)
 obtain⟨b1,hbb⟩:=zU hlm
 have hUi:=hget i f hff
 obtain⟨k1,k2,k3,k4⟩:=st i acc f b1 hff g1
 have hq4:=hb4 b1
 rw[qF hff,qF hbb,rdF] at g2
 obtain⟨x,hx⟩:∃ x:Rat,r4 b1=x:=⟨_,rfl⟩
 rw[hx] at k1 k2 k3 k4 g2
 obtain⟨acc2,hacc2⟩:∃ y,acc.add (f.scale x)=y:=⟨_,rfl⟩
 rw[hacc2] at k3 k4 g2
 have h00:∃ acc:F,fA acc=fA acc2∧(acc.fl (1+7 * (i+1)) (8 * (i+1))∧acc.wf (v:Int))∧rdF (fs.drop (i+1)) (ms.drop (i+1)) acc=T:=⟨acc2,rfl,k4,g2⟩
 obtain⟨F0,hF0⟩:∃ y,fA f=y:=⟨_,rfl⟩
 obtain⟨X0,hX0⟩:∃ y,zK x=y:=⟨_,rfl⟩
 obtain⟨M0,hM0⟩:∃ y,fA (f.scale x)=y:=⟨_,rfl⟩
 obtain⟨N0,hN0⟩:∃ y,fA acc2=y:=⟨_,rfl⟩
 rw[hF0] at hUi k2
 rw[hX0] at k1 k2
 rw[hM0] at k2 k3
 rw[hN0] at k3 h00
 rw[hacc] at k3
 obtain⟨B1,hB1⟩:∃ z:Int,(b1.toNat:Int)=z:=⟨_,rfl⟩
 clear fin st g1 g2 hacc hacc2 hF0 hX0 hM0 hN0 hx k4
 obtain⟨fts,fc⟩:=F0
 obtain⟨mts,mc0⟩:=M0
 obtain⟨nts,nc0⟩:=N0
 cbv
 refine zY 14 (by cbv) ?_
 cbv
 refine vX hUi uN uE ?_
 cbv
 refine vX hbb (fun _=>rfl) (fun _=>rfl) ?_
 cbv
 refine⟨wT (by decide),gQ (by exact⟨zC hq4,trivial⟩) k1 rfl ?_⟩
 cbv
 refine dA k2 ?_
 cbv
 refine cA k3 ?_
 cbv
 exact⟨zF om om,(i+1,⟨nts,nc0⟩),⟨om,h00⟩,om,wkZ⟩
end Go.Proofs.YtfainocfaddbdaaGreat
