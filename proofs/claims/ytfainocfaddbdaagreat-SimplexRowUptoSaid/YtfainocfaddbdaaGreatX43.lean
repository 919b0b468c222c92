/- A part of the proof: LsG. -/
import Derived.Test.YtfainocfaddbdaaGreatX42
set_option linter.all false
namespace Go.Proofs.YtfainocfaddbdaaGreat
open Go
set_option maxRecDepth 100000
set_option maxHeartbeats 4000000
theorem zNL {a b:Rat}(h:b≤a):0≤gE a b:=by unfold gE;split <;> (try split) <;> grind
theorem zPR {v w:Nat}{fs gs:List F}{ob ob':F}{g:A}(h:(⟨((v:Nat):Int),fs.map fA++[g],fA ob⟩:Prg)=prg w gs ob'):w=v∧gs=fs++[g.f]∧ob'=ob:=by
 have hf:∀ f:F,(fA f).f=f:=fun f=>by
  obtain⟨ts,c⟩:=f
  show (⟨tq (tR ts),(zK c).q⟩:F)=⟨ts,c⟩
  rw[zEW,yN]
 have hm:∀ l:List F,(l.map fA).map A.f=l:=fun l=>by
  rw[List.map_map]
  refine List.ext_getElem? fun i=>?_
  rw[List.getElem?_map]
  cases l[i]? with
  | none=>rfl
  | some f=>show some (fA f).f=some f;rw[hf]
 have h1:((v:Nat):Int)=(w:Int):=congrArg Prg.v h
 have h2:fs.map fA++[g]=gs.map fA:=congrArg Prg.rows h
 have h3:fA ob=fA ob':=congrArg Prg.ob h
 refine⟨by omega,?_,by rw[←hf ob',←h3,hf]⟩
 rw[←hm gs,←h2,List.map_append,hm]
 rfl
theorem zIA {P:Prg}{g:A}(h:P.small=true)(h2:(⟨P.v,P.rows++[g],P.ob⟩:Prg).small=true):∃ (s t:SolR) (c:Int),zD 20 [pgv P] (.tup [slv s,.int .i64 (fun _=>0)]) ∧
  zD 20 [pgv ⟨P.v,P.rows++[g],P.ob⟩] (.tup [slv t,.int .i64 (fun _=>0)])∧(s.st=2→t.st=2)∧(s.st=1→t.st=2∨t.st=1∧0≤c)∧zD 30 [rv (zK t.val),rv (zK s.val)] (.int .i64 (fun _=>c)):=by
 obtain⟨v,fs,ob,rfl,hl,hp⟩:=jO h
 obtain⟨w,gs,ob',he,hl2,hp2⟩:=jO h2
 obtain⟨rfl,rfl,rfl⟩:=zPR he
 obtain⟨s,hs⟩:=hp.solve
 obtain⟨t,ht⟩:=hp2.solve
 have hv1:Fits (2^24) s.val:=hs.sl.fit.val.mono (by decide)
 have hv2:Fits (2^24) t.val:=ht.sl.fit.val.mono (by decide)
 have hsub:∀ X,Pts (fs++[g.f]) X→Pts fs X:=fun X hX f hf=>hX f (List.mem_append_left _ hf)
 refine⟨s,t,gE t.val s.val,hs.call,?_,fun e=>?_,fun e=>?_,?_⟩
 ·have:=ht.call
  rw[←he] at this
  exact this
 ·refine Classical.byContradiction fun e2=>?_
  obtain⟨X,hX⟩:=ht.sem.some e2
  exact (hs.sem.inf e).2 X (hsub X hX)
 ·rcases ht.sem.one with e2 | e2 | e2
  ·refine .inr ⟨e2,zNL ?_⟩
   obtain⟨⟨X,hX,hXv⟩,_⟩:=ht.sem.opt e2
   rw[←hXv]
   exact (hs.sem.opt e).2 X (hsub X hX)
  ·exact .inl e2
  ·obtain⟨X,hX,hlt⟩:=(ht.sem.unb e2).2 s.val
   have:=(hs.sem.opt e).2 X (hsub X hX)
   exact absurd hlt (by grind)
 ·have:=s42 (zK t.val) (zK s.val) ((z7 hv2).mono (by decide)) ((z7 hv1).mono (by decide))
  rw[yN,yN] at this
  exact this
theorem zPF (P:Prg)(g:A)(h:P.bk (2^20))(hg:g.bk (2^20)):zD 9 [pgv P,av g] (.bool (fun _=>true)):=by
 have hz:=h.sz (m:=2^31) (by decide) (by decide)
 have hgz:=hg.sz (m:=2^31) (by decide) (by decide)
 have cv:=iL P (hz.mono (by decide))
 have hz2:(⟨P.v,P.rows++[g],P.ob⟩:Prg).sz (2^32):=⟨⟨by have:=h.len;show (P.rows++[g]).length<_;rw[List.length_append];simp;omega,fun a ha=>by
  rcases List.mem_append.1 ha with ha | ha
  ·exact (hz.rows.sz a ha).mono (by decide)
  ·have:a=g:=by simpa using ha
   rw[this];exact hgz.mono (by decide)⟩,hz.ob.mono (by decide)⟩
 have cv2:=iL _ hz2
 have hlen:P.rows.length≤1048576:=h.len
 obtain⟨tru,htru⟩:∃ b,b=true:=⟨_,rfl⟩
 have ca:=rW htru
 obtain⟨b,hb⟩:∃ b,P.small=b:=⟨_,rfl⟩
 obtain⟨b2,hb2⟩:∃ b,(⟨P.v,P.rows++[g],P.ob⟩:Prg).small=b:=⟨_,rfl⟩
 rw[hb] at cv
 rw[hb2] at cv2
 have cs:=fun e e2=>zIA (hb.trans e) (hb2.trans e2)
 clear hb hb2 hz h hz2 hg hgz
 obtain⟨n,us,ob⟩:=P
 obtain⟨ots,oc⟩:=ob
 dsimp only at cv2 cs hlen
 obtain⟨gts,gc⟩:=g
 refine sF Tryz.f9 ?_
 cbv
 refine cA ca ?_
 cbv
 refine yA (fun e=>?_) (fun e=>by rw[htru] at e;cases e)
 cbv
 refine cQ 6 [(3,16)] (.fresh 16 4 rfl) (by cbv) (by cbv) ?_
 cbv
 refine oG cX rfl (sM uE _) (yJ (by exact Int.natCast_nonneg _) (by simp only[zM];(try dsimp only [zL] at *);omega)) ?_
 cbv
 refine wL cX rfl rfl rfl rfl rfl ⟨by simp [yO,xG]⟩ (yJ (by exact Int.natCast_nonneg _) (by show (((enc ac us).length+1:Nat):Int) * 80≤_;rw[zM];(try dsimp only [zL] at *);omega)) rfl ?_
 have hel:enc ac us++yO [ac ⟨gts,gc⟩]=enc ac (us++[⟨gts,gc⟩]):=by simp [enc,yO]
 have es3:((enc ac us++yO [ac ⟨gts,gc⟩]).drop 0).take ((enc ac us).length+(yO [ac ⟨gts,gc⟩]).length)=enc ac (us++[⟨gts,gc⟩]):=by rw[hel,List.drop_zero,List.take_of_length_le (by rw[zM,zM];simp [yO])]
 have es4:0+((enc ac us).length+(yO [ac ⟨gts,gc⟩]).length)≤(enc ac us++yO [ac ⟨gts,gc⟩]).length:=by rw[List.length_append];omega
 cbv
 refine cA cv ?_
 cbv
 refine xF (fun e1=>?_) (fun e1=>?_)
 rotate_left
 ·cbv
  (refine rC ?_;cbv)
  exact zS rfl
 cbv
 refine qJ (.frz 19 rfl rfl (by cbv;repeat' first | exact trivial | exact yD es4 | apply And.intro) (by cbv;repeat' first | exact trivial | exact yD es4 | apply And.intro)) rfl (by exact⟨⟨lR,zX es3,lR,lR,lR,lR,trivial⟩,trivial⟩) cv2 rfl ?_
 cbv
 refine yA (fun e2=>?_) (fun e2=>?_)
 rotate_left
 ·cbv
  (refine rC ?_;cbv)
  exact zS rfl
 obtain⟨s,t,c,c1,c2,c3,c4,c5⟩:=cs e1 e2
 clear cs cv ca cv2
 obtain⟨st,val,pt,du,ry,bas,pv⟩:=s
 obtain⟨st2,val2,pt2,du2,ry2,bas2,pv2⟩:=t
 try unfold slv at c1
 try unfold slv at c2
 dsimp only at c1 c2 c3 c4 c5
 obtain⟨Z,hZ⟩:∃ Z,zK val=Z:=⟨_,rfl⟩
 obtain⟨Z2,hZ2⟩:∃ Z,zK val2=Z:=⟨_,rfl⟩
 rw[hZ] at c1 c5
 rw[hZ2] at c2 c5
 clear hZ hZ2
 cbv
 refine cA c1 ?_
 cbv
 refine xX rfl (by exact⟨⟨lR,zX es3,lR,lR,lR,lR,trivial⟩,trivial⟩) c2 rfl ?_
 cbv
 refine xO rfl ?_
 cbv
 refine dQ rfl ?_
 cbv
 refine zG (fun e3=>?_) (fun e3=>?_)
 ·have d:=c3 om
  cbv
  (refine rC ?_;cbv)
  exact zI (decide_eq_true om)
 cbv
 refine zG (fun e4=>?_) (fun e4=>?_)
 rotate_left
 ·cbv
  (refine rC ?_;cbv)
  exact zS rfl
 have d:=c4 om
 cbv
 refine yG (fun e5=>?_) (fun e5=>?_)
 ·cbv
  (refine rC ?_;cbv)
  exact zS rfl
 obtain⟨d1,d2⟩:st2=1∧0≤c:=by
  rcases d with d | d
  ·exact absurd (show ((st2:Nat):Int)=2 by omega) e5
  ·exact d
 cbv
 refine xO om ?_
 cbv
 refine cA c5 ?_
 cbv
 (refine rC ?_;cbv)
 exact zI (decide_eq_true d2)
end Go.Proofs.YtfainocfaddbdaaGreat
