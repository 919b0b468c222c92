/- A part of the proof: LsF. -/
import Derived.Test.YtfainocfaddbdaaGreatX40
set_option linter.all false
namespace Go.Proofs.YtfainocfaddbdaaGreat
open Go
set_option maxRecDepth 100000
set_option maxHeartbeats 4000000
theorem Sem.some {fs:List F}{ob:F}{st:Nat}{z:Rat}(h:Sem fs ob st z)(e:st≠2):∃ X,Pts fs X:=by
 rcases h.one with h1 | h1 | h1
 ·obtain⟨⟨X,hX,_⟩,_⟩:=h.opt h1
  exact⟨X,hX⟩
 ·exact absurd h1 e
 ·obtain⟨X,hX,_⟩:=(h.unb h1).2 0
  exact⟨X,hX⟩
theorem zMM {q:Rat}(h:q≤0):yW q≤0:=by
 unfold yW
 split
 ·decide
 ·split
  ·rename_i h1;exact absurd h1 (by grind)
  ·decide
theorem zIG {P:Prg}(h:P.small=true):∃ (s t:SolR) (O:A) (y:R) (g:Int),zD 20 [pgv P] (.tup [slv s,.int .i64 (fun _=>0)])∧zD 27 [av P.ob,rv (zK (-1))] (av O) ∧
  zD 20 [pgv ⟨P.v,P.rows,O⟩] (.tup [slv t,.int .i64 (fun _=>0)])∧(s.st=2↔t.st=2)∧(s.st=1→t.st=1→zD 32 [rv (zK s.val),rv (zK t.val)] (rv y)∧zD 31 [rv y] (.int .i64 (fun _=>g))∧g≤0):=by
 obtain⟨v,fs,ob,rfl,hl,hp⟩:=jO h
 obtain⟨s,hs⟩:=hp.solve
 have hf:Fits 1 (-1:Rat):=fX (j6 (z:=1) (k:=1) (by unfold B;decide) (Nat.le_refl 1))
 have hob:(ob.scale (-1)).fl 5 8∧(ob.scale (-1)).wf (v:Int):=⟨(hp.obj.1.scale hf).mono (by omega) (Nat.le_refl _),hp.obj.2.scale⟩
 have hrow:∀ f,f∈fs→f.fl 5 8∧f.wf (v:Int):=fun f hf=>⟨(hp.rows f hf).1.mono (by omega) (Nat.le_refl _),(hp.rows f hf).2⟩
 obtain⟨t,ht⟩:=(show PW v fs (ob.scale (-1)) 5 8 from ⟨hp.lv,hp.len,hrow,hob,by decide,by decide,by decide⟩).solve
 have hv1:Fits (2^24) s.val:=hs.sl.fit.val.mono (by decide)
 have hv2:Fits (2^24) t.val:=ht.sl.fit.val.mono (by decide)
 have hv3:Fits (2^26) (s.val+t.val):=(uW hv1 hv2).mono (by decide)
 refine⟨s,t,fA (ob.scale (-1)),zK (s.val+t.val),yW (s.val+t.val),hs.call,p4 hp.obj.1 hf (by decide) (by decide) (by decide),ht.call,⟨fun e=>?_,fun e=>?_⟩,fun e1 e2=>⟨?_,?_,?_⟩⟩
 ·refine Classical.byContradiction fun e2=>?_
  obtain⟨X,hX⟩:=ht.sem.some e2
  exact (hs.sem.inf e).2 X hX
 ·refine Classical.byContradiction fun e2=>?_
  obtain⟨X,hX⟩:=hs.sem.some e2
  exact (ht.sem.inf e).2 X hX
 ·have:=s44 (zK s.val) (zK t.val) ((z7 hv1).mono (by decide)) ((z7 hv2).mono (by decide))
  rw[yN,yN] at this
  exact this
 ·have h3:=s35 (zK (s.val+t.val)) (by have:=(z7 hv3).n;omega)
  rw[yN] at h3
  exact h3
 ·refine zMM ?_
  obtain⟨⟨X,hX,hXv⟩,_⟩:=hs.sem.opt e1
  have:=(ht.sem.opt e2).2 X hX
  rw[cS,hXv] at this
  grind
theorem zPJ (P:Prg)(h:P.bk (2^20)):zD 10 [pgv P] (.bool (fun _=>true)):=by
 have hz:=h.sz (m:=2^32) (Nat.le_refl _) (by decide)
 have cv:=iL P hz
 obtain⟨tru,htru⟩:∃ b,b=true:=⟨_,rfl⟩
 have ca:=rW htru
 have co:=s32 (-1) (by decide) (by decide)
 rw[show ((-1:Int):Rat)=(-1:Rat) from rfl] at co
 obtain⟨b,hb⟩:∃ b,P.small=b:=⟨_,rfl⟩
 rw[hb] at cv
 have cs:=fun e=>zIG (hb.trans e)
 obtain⟨W,hW⟩:∃ W,zK (-1)=W:=⟨_,rfl⟩
 rw[hW] at co
 rw[hW] at cs
 clear hb hz h hW
 obtain⟨n,us,ob⟩:=P
 obtain⟨ots,oc⟩:=ob
 refine sF Tryz.f10 ?_
 cbv
 refine cA ca ?_
 cbv
 refine yA (fun e=>?_) (fun e=>by rw[htru] at e;cases e)
 cbv
 refine cA cv ?_
 cbv
 refine yA (fun e2=>?_) (fun e2=>?_)
 rotate_left
 ·cbv
  (refine rC ?_;cbv)
  exact zS rfl
 obtain⟨s,t,O,y,g,c1,c2,c3,c4,c5⟩:=cs e2
 clear cs cv ca
 dsimp only at c1 c2 c3
 obtain⟨st,val,pt,du,ry,bas,pv⟩:=s
 obtain⟨st2,val2,pt2,du2,ry2,bas2,pv2⟩:=t
 try unfold slv at c1
 try unfold slv at c3
 dsimp only at c1 c3 c4 c5
 obtain⟨Z,hZ⟩:∃ Z,zK val=Z:=⟨_,rfl⟩
 obtain⟨Z2,hZ2⟩:∃ Z,zK val2=Z:=⟨_,rfl⟩
 rw[hZ] at c1 c5
 rw[hZ2] at c3 c5
 clear hZ hZ2
 obtain⟨o2s,o2c⟩:=O
 have c4':decide ((st:Int)=2)=decide ((st2:Int)=2):=decide_eq_decide.2 ⟨fun e=>by have:=c4.1 (by omega);omega,fun e=>by have:=c4.2 (by omega);omega⟩
 clear c4
 cbv
 refine zY 3 (by cbv) ?_
 cbv
 refine dA co ?_
 cbv
 refine cA c2 ?_
 cbv
 refine cA c1 ?_
 cbv
 refine cA c3 ?_
 cbv
 refine xO rfl ?_
 cbv
 refine xO rfl ?_
 cbv
 refine dQ (by exact c4') ?_
 cbv
 refine yG (fun e4=>?_) (fun e4=>?_)
 rotate_left
 ·cbv
  (refine rC ?_;cbv)
  exact zS rfl
 cbv
 refine yG (fun e5=>?_) (fun e5=>?_)
 rotate_left
 ·cbv
  (refine rC ?_;cbv)
  exact zS rfl
 obtain⟨d1,d2,d3⟩:=c5 om om
 cbv
 refine cA d1 ?_
 cbv
 refine cA d2 ?_
 cbv
 (refine rC ?_;cbv)
 exact zI (decide_eq_true d3)
end Go.Proofs.YtfainocfaddbdaaGreat
