/- A part of the proof: SxN, SyQ. -/
import Derived.Test.YtfainocfaddbdaaGreatX28
import Derived.Test.YtfainocfaddbdaaGreatX35
import Derived.Test.YtfainocfaddbdaaGreatX36
set_option linter.all false
namespace Go.Proofs.YtfainocfaddbdaaGreat
open Go
set_option maxRecDepth 100000
set_option maxHeartbeats 4000000
theorem zIH {l m:List Nat}(hl:l.Nodup)(hm:m.Nodup)(h:∀ x,x∈l↔x∈m):l.length=m.length :=
 ((List.perm_ext_iff_of_nodup hl hm).2 h).length_eq
theorem zMP {D E:Dic}(hD:D.wf)(hE:E.wf)(hs:Same E D)(hn:E.nb.length=D.nb.length):E.bs.length=D.bs.length:=by
 have:=zIH hE.nd hD.nd (fun v=>by rw[List.mem_append,List.mem_append];exact hs.vars v)
 rw[List.length_append,List.length_append] at this
 omega
theorem zDV {k c:Nat}{x:Rat}{l:List Rat}(h:lfit k l)(hx:Fits k x):lfit k (ins c x l):=fun y hy=>by
 unfold ins at hy
 rcases List.mem_append.1 hy with q | q
 ·exact h y (List.mem_of_mem_take q)
 ·rcases List.mem_cons.1 q with q | q
  ·rw[q];exact hx
  ·exact h y (List.mem_of_mem_drop q)
theorem zLF {k:Nat}(hk:1≤k):Fits k 1:=fits_one.mono hk
theorem zER {v c k:Nat}(hk:1≤k):∀ {bs:List Nat} {ls:List (List Rat)},(∀ l,l∈ls→lfit k l)→∀ l,l∈oX v c bs ls→lfit k l
 | [],_,_,l,hl=>by unfold oX at hl;exact absurd hl (by simp)
 | b::bs,[],_,l,hl=>by unfold oX at hl;exact absurd hl (by simp)
 | b::bs,m::ls,h,l,hl=>by
  unfold oX at hl
  rcases List.mem_cons.1 hl with q | q
  ·rw[q]
   refine zDV (h m List.mem_cons_self) ?_
   split
   ·exact xQ hk
   ·exact zLF hk
  ·exact zER hk (fun l hl=>h l (List.mem_cons_of_mem _ hl)) l q
theorem Dic.aux_fit {D:Dic}{v a k:Nat}(h:D.fit k)(hk:1≤k):(D.aux v a).fit k:=⟨fun l hl=>zER hk h.fs l hl,zDV h.ob (xQ hk)⟩
theorem cJ {k n:Nat}(hk:1≤k):lfit k (List.replicate n 0):=fun c hc=>by rw[List.eq_of_mem_replicate hc];exact xQ hk
theorem oI {v r k:Nat}{l:List Rat}(hk:1≤k)(h:lfit k l):∀ {ys:List Nat} {j:Nat} {o:List Rat},lfit k o→lfit k (kQ v r l ys j o)
 | [],_,_,ho=>ho
 | y::ys,j,o,ho=>by
  rw[kQ]
  refine oI hk h ?_
  split
  ·exact lfit.set ho (h.getD hk j) _
  ·exact ho
theorem zEH {v r k:Nat}{nb:List Nat}{l:List Rat}(hk:1≤k)(h:lfit k l):lfit k (t9 v r nb l):=oI hk h (cJ hk)
theorem mW {v k:Nat}{f:Nat→Rat}(h:∀ i,Fits k (f i)):∀ {ys:List Nat} {i:Nat} {x:List Rat},lfit k x→lfit k (dK v f ys i x)
 | [],_,_,hx=>hx
 | b::bs,i,x,hx=>by
  rw[dK]
  refine mW h ?_
  split
  ·exact lfit.set hx (h i) _
  ·exact hx
theorem zBV {v k:Nat}{D:Dic}(hk:1≤k)(h:D.fit k):lfit k (pnt v D):=mW (fun i=>by unfold Dic.cst;exact eW h hk i _) (cJ hk)
theorem zDK {v k m e:Nat}{D:Dic}{c:Rat}(hk:1≤k)(h:D.fit k)(hc:Fits m c):lfit (m+k) (c8 v D e c):=by
 refine mW (fun i=>wO hc (eW h hk i _)) ?_
 split
 ·exact lfit.set (cJ (by omega)) (hc.mono (by omega)) _
 ·exact cJ (by omega)
structure Walk (v r K:Nat) (D0 D1:Dic) (p1:Nat):Prop where
 wf:D1.wf
 bl:D1.bs.length=r
 nl:D1.nb.length=v
 pp:p1≤v
 ys:∀ y,y∈D1.bs∨y∈D1.nb→y<v+r
 fit:D1.fit K
 aux:¬ wrs v D1<0→∀ E,Pvs (D1.aux v (v+r)) E→E.fit K
 some:∀ l,(v4 v r D1 p1).2.2.1=some l→l≠[]∧lfit K l
 ok:(v4 v r D1 p1).2.2.2=true
 q:(v4 v r D1 p1).2.1≤65536
 none:(v4 v r D1 p1).2.2.1=none→(v4 v r D1 p1).1.wf∧(v4 v r D1 p1).1.bs.length=r∧(v4 v r D1 p1).1.nb.length=v∧(∀ y,y∈(v4 v r D1 p1).1.bs∨y∈(v4 v r D1 p1).1.nb→y<v+r)∧∀ F,Pvs (v4 v r D1 p1).1 F→F.fit K
def zGB (v r K:Nat) (D:Dic):Prop:=¬ wrs v D<0→∀ E,Pvs (D.aux v (v+r)) E→E.fit K
theorem zAD {v r K p:Nat}{D:Dic}(hw:D.wf)(hw2:∀ y,y∈D.bs∨y∈D.nb→y<v+r)(hk:1≤K)(ha:zGB v r K D){l:List Rat}(h:(v4 v r D p).2.2.1=some l):lfit K l:=by
 have hws:=lZ v D
 unfold v4 at h
 split at h
 ·cases h
 ·rename_i hn
  have ha:=ha hn
  obtain⟨w1,w2,w3,w4⟩:=hws.2 (by omega)
  generalize (wrs v D).toNat=w at *
  have hwl:=w1
  have hat:(D.aux v (v+r)).at w D.nb.length≠0:=by rw[Dic.aux_at hw hwl,if_neg (by omega),if_pos rfl,if_neg (by omega)];decide
  have hp3:Pvs (D.aux v (v+r)) ((D.aux v (v+r)).piv w D.nb.length):=.step .refl hwl (by show _<(D.nb++[v+r]).length;simp) hat
  generalize (D.aux v (v+r)).piv w D.nb.length=D3 at *
  unfold zI4 at h
  have hmp:=(aK (v:=v) (ln:=vio (v+r)) (65537 - (p+1)) D3 (p+1)).1
  generalize vV v (vio (v+r)) (65537 - (p+1)) D3 (p+1)=R at *
  obtain⟨E,q,e,ok⟩:=R
  cases ok with
  | false=>cases h
  | true =>
   dsimp only at h
   split at h
   ·cases h
    refine zEH hk ?_
    unfold vio
    split
    ·have hf:=ha E (hp3.trans hmp)
     rw[List.getD_eq_getElem?_getD]
     cases hg:E.fs[(wS E.bs (v+r)).toNat]? with
     | none=>exact fun c hc=>absurd hc (by simp)
     | some m=>exact hf.fs m (List.mem_of_getElem? hg)
    ·exact lfit.set (cJ hk) (zLF hk) _
   ·split at h <;> cases h
theorem zL6 {v K k:Nat}{rows:List (List Rat)}{ob:List Rat}(hr:∀ l,l∈rows→l.length=v+1)(ho:ob.length=v+1)(hp:v+1+2 ^ (rows.length+1)+2 ^ rows.length≤65537)(hk:1≤k)(hf:(yT v rows ob).fit k)(hK:5 ^ v * k≤K)
  (hA:∀ D1,Pvs (yT v rows ob) D1→zGB v rows.length K D1) :
  (∀ E,Pvs (yT v rows ob) E→E.fit K)∧Walk v rows.length K (yT v rows ob) (rel v (yT v rows ob).nb 0 (yT v rows ob,0)).1 (rel v (yT v rows ob).nb 0 (yT v rows ob,0)).2:=by
 have hw0:=pV hr ho
 have hnl:(yT v rows ob).nb.length=v:=by simp [yT]
 have hbl:(yT v rows ob).bs.length=rows.length:=by simp [yT]
 have hrel:=aE (v:=v) hw0 (yT v rows ob).nb 0 (yT v rows ob,0) rfl (Nat.zero_le _) .refl (fun e he=>absurd he (by omega))
 have hK1:1≤K:=Nat.le_trans (Nat.le_trans hk (Nat.le_mul_of_pos_left k (Nat.pow_pos (by decide)))) hK
 have f0:∀ E,E.wf→Same E (yT v rows ob)→(∀ X,(yT v rows ob).Sat X→E.val X=(yT v rows ob).val X)→E.fit K:=fun E h1 h2 h3=>(zDE hw0 h1 h2.symm (fun X hX=>(h3 X hX).symm) hk hf (by rw[hnl];exact Nat.le_refl _)).mono hK
 have f1:∀ E,Pvs (yT v rows ob) E→E.fit K:=fun E hE=>f0 E (hE.wf hw0) (hE.same hw0) fun X hX=>hE.val hw0 hX
 refine⟨f1,?_⟩
 generalize rel v (yT v rows ob).nb 0 (yT v rows ob,0)=R1 at *
 obtain⟨D1,p1⟩:=R1
 obtain⟨q1,q2,q3⟩:=hrel
 dsimp only at q1 q2 q3 ⊢
 rw[hnl] at q2 q3
 have hw1:=q1.wf hw0
 have hs1:=q1.same hw0
 have hl1:=q1.len
 have hpos:0<2 ^ rows.length:=Nat.pow_pos (by decide)
 have hy1:∀ y,y∈D1.bs∨y∈D1.nb→y<v+rows.length:=fun y hy=>by
  rcases (hs1.vars y).1 hy with q | q
  ·obtain⟨k,hk,rfl⟩:=List.mem_map.1 q
   have:=List.mem_range.1 hk
   omega
  ·have:=List.mem_range.1 q
   omega
 have hfe:=zHC (v:=v) (r:=rows.length) (p:=p1) hw1 (by rw[hl1.2,hnl];exact q2) hy1 (by omega)
 have hfew:=hfe.few
 refine⟨hw1,by rw[hl1.1,hbl],by rw[hl1.2,hnl],by omega,hy1,f1 D1 q1,hA D1 q1,fun l hl=>⟨fun e=>?_,zAD hw1 hy1 hK1 (hA D1 q1) hl⟩,hfe.ok,by omega,fun hn=>?_⟩
 ·obtain⟨a1,a2,c,a3,a4⟩:=hfe.some l hl
  have:=a4 _ (Dic.ext_sat hw1 (fun _=>0))
  rw[e] at this
  unfold gA at this
  rw[Rat.zero_add] at this
  rw[this] at a3
  exact absurd a3 (by decide)
 ·have hE:=hfe.none hn
  generalize (v4 v rows.length D1 p1).1=E at *
  have hsE:=hE.same.trans hs1
  refine⟨hE.wf,by rw[zMP hw1 hE.wf hE.same hE.nl,hl1.1,hbl],by rw[hE.nl,hl1.2,hnl],fun y hy=>hy1 y ((hE.same.vars y).1 hy),fun F hF=>?_⟩
  exact f0 F (hF.wf hE.wf) ((hF.same hE.wf).trans hsE) fun X hX=>(hF.val hE.wf ((hsE.sat X).2 hX)).trans ((hE.val X ((hs1.sat X).2 hX)).trans (q1.val hw0 hX))
theorem zIX {v K k:Nat}{rows:List (List Rat)}{ob:List Rat}(hr:∀ l,l∈rows→l.length=v+1)(ho:ob.length=v+1)(hk:1≤k)(hf:(yT v rows ob).fit k)(hK:5 ^ (v+1) * (5 ^ v * k)≤K) :
  ∀ D1,Pvs (yT v rows ob) D1→zGB v rows.length K D1:=fun D1 h1 _ E hE=>by
 have hw0:=pV hr ho
 have hnl:(yT v rows ob).nb.length=v:=by simp [yT]
 have hw1:=h1.wf hw0
 have hf1:=h1.fit hw0 hk hf (n:=v) (by rw[hnl];exact Nat.le_refl _)
 have hk1:1≤5 ^ v * k:=Nat.le_trans hk (Nat.le_mul_of_pos_left k (Nat.pow_pos (by decide)))
 have hs1:=h1.same hw0
 have hy1:∀ y,y∈D1.bs∨y∈D1.nb→y<v+rows.length:=fun y hy=>by
  rcases (hs1.vars y).1 hy with q | q
  ·obtain⟨k,hk,rfl⟩:=List.mem_map.1 q
   have:=List.mem_range.1 hk
   omega
  ·have:=List.mem_range.1 q
   omega
 have hwa:=Dic.aux_wf (v:=v) (a:=v+rows.length) hw1 (fun q=>by have:=hy1 _ (.inl q);omega) (fun q=>by have:=hy1 _ (.inr q);omega)
 exact (hE.fit hwa hk1 (Dic.aux_fit hf1 hk1) (n:=v+1) (by show (D1.nb++[_]).length≤_;rw[List.length_append,h1.len.2,hnl];exact Nat.le_refl _)).mono hK
structure SolFit (K:Nat) (s:SolR):Prop where
 val:Fits K s.val
 pt:lfit K s.pt
 du:lfit K s.du
 ry:lfit (K+1) s.ry
theorem zDB (c:Rat):Fits 1 (((-(yW c):Int)):Rat):=by
 refine j6 ?_ (Nat.le_refl 1)
 unfold yW
 split
 ·decide
 ·split <;> decide
theorem aM {k:Nat}:lfit k []:=fun c hc=>absurd hc (by simp)
theorem zH0 {v r K:Nat}{D0:Dic}(hK1:1≤K)(W:Walk v r K D0 (rel v D0.nb 0 (D0,0)).1 (rel v D0.nb 0 (D0,0)).2){s:SolR}(hs:rS v r D0=some s):SolFit K s:=by
 have Ws:=W.some
 have Wn:=W.none
 unfold rS at hs
 generalize v4 v r (rel v D0.nb 0 (D0,0)).1 (rel v D0.nb 0 (D0,0)).2=R2 at *
 obtain⟨E,q,ref,ok⟩:=R2
 dsimp only at Ws Wn
 cases ok with
 | false=>cases hs
 | true =>
  cases ref with
  | some l =>
   cases hs
   exact⟨xQ hK1,aM,(Ws l rfl).2,aM⟩
  | none =>
   obtain⟨hwE,_,_,_,hfE⟩:=Wn rfl
   dsimp only at hs
   split at hs
   ·cases hs
    exact⟨xQ hK1,zBV hK1 (hfE E .refl),aM,(zDK hK1 (hfE E .refl) (zDB _)).mono (by omega)⟩
   ·have hm:=(aK (v:=v) (ln:=Dic.ob) (65537 - q) E q).1
    generalize vV v Dic.ob (65537 - q) E q=R3 at *
    obtain⟨F,q',e,ok⟩:=R3
    have hfF:=hfE F hm
    cases ok with
    | false=>cases hs
    | true =>
     dsimp only at hs
     split at hs
     ·cases hs
      exact⟨xQ hK1,zBV hK1 hfF,aM,(zDK hK1 hfF fits_one).mono (by omega)⟩
     ·cases hs
      exact⟨hfF.ob.getD hK1 _,zBV hK1 hfF,zEH hK1 hfF.ob,aM⟩
abbrev qlv (l:List Rat):PV:=.sl (fun _=>enc cq l)
abbrev ilv (l:List Nat):PV:=.sl (fun _=>enc ci l)
abbrev slv (s:SolR):PV:=.agg [.int .i64 (fun _=>(s.st:Int)),.bool (fun _=>(zK s.val).neg),nat (zK s.val).num,nat (zK s.val).den,qlv s.pt,qlv s.du,qlv s.ry,ilv s.bas,.int .i64 (fun _=>(s.pv:Int))]
def zQI:SolR:=⟨0,0,[],[],[],[],0⟩
def sP (v r : Nat) (D : Dic) (p : Nat) : List (Nat × Obj') :=
  [(13, .box [.int .i64 (fun _ => (v : Int)), .int .i64 (fun _ => (r : Int)), .osl 48 1 (fun _ => 0) (fun _ => D.bs.length), .osl 26 1 (fun _ => 0) (fun _ => D.nb.length), .osl 60 1 (fun _ => 0) (fun _ => D.fs.length), .osl 68 3 (fun _ => 0) (fun _ => D.ob.length), .int .i64 (fun _ => (p : Int))]),
   (48, .arr 1 (fun _ => enc ci D.bs)), (26, .arr 1 (fun _ => enc ci D.nb)), (60, .mat 3 (fun _ => D.fs.map (enc cq)) []), (68, .arr 3 (fun _ => enc cq D.ob))]
theorem zMX (xs:List (List D))(hw:∀ e,e∈xs→e.length=1)(hn:xs.length<2^40) :
  Sound 58 [.osl 1000001 1 (fun _=>0) (fun _=>xs.length)] [(1000001,.arr 1 (fun _=>xs))] [] (.sl (fun _=>xs)) [(1000001,.arr 1 (fun _=>xs))] []:=by
 refine xR zD1 rfl rfl rfl rfl rfl ?_
 cbv
 refine⟨fun b hb=>?_⟩
 cbv
 refine yA (fun h=>?_) (fun h=>?_)
 ·have h0:xs.length=0:=hb h
  have h1:xs=[]:=List.eq_nil_of_length_eq_zero h0
  subst h1
  cbv
  refine qS (wkZ (ps':=⟨[(2,.nil)],[(1000001,.arr 1 (fun _=>[]))]⟩)) rfl (by exact⟨⟨rfl,rfl⟩,trivial⟩) (by rfl) (by exact⟨⟨rfl,by omega⟩,trivial⟩) ?_
  exact zQ rfl
 ·cbv
  refine oZ zFS rfl rfl rfl rfl rfl rfl rfl rfl ⟨hw⟩ (yJ om (by simp only[List.length_nil];(try dsimp only [zL] at *) <;> omega)) rfl ?_
  cbv
  refine qS (.frz 7 rfl rfl (by cbv;repeat' first | exact trivial | exact yD (by simp) | apply And.intro) (by cbv;repeat' first | exact trivial | apply And.intro)) rfl (by exact⟨⟨rfl,rfl⟩,trivial⟩) (by rfl) (by exact⟨⟨rfl,by omega⟩,trivial⟩) ?_
  refine zX ?_
  show (([]++xs).drop 0).take ([].length+xs.length)=xs
  simp
theorem zLA {v:Nat}{ln:Dic→List Rat}(hln:∀ D,ln D=D.ob):∀ (f:Nat) (D:Dic) (p:Nat),0≤(vV v ln f D p).2.2.1→(vV v ln f D p).2.2.1.toNat<(vV v ln f D p).1.nb.length
 | 0,D,p,h=>by rw[vV] at h;exact absurd h (by show ¬ (0:Int)≤-1;decide)
 | f+1,D,p,h=>by
  rw[vV] at h ⊢
  split at h
  ·rename_i h1
   rw[if_pos h1]
   split at h
   ·exact absurd h (by show ¬ (0:Int)≤-1;decide)
   ·rename_i h2
    rw[if_neg h2]
    split at h
    ·rename_i h3
     rw[if_pos h3]
     exact (sL (v:=v) (nb:=D.nb) (l:=ln D) h).1
    ·rename_i h3
     rw[if_neg h3]
     exact zLA hln f _ _ h
  ·exact absurd h (by show ¬ (0:Int)≤-1;decide)
theorem zA1:Pg.funcs[20]?=some Tryz.f20:=by rw[w7];rfl
theorem zH6 (P:Prg)(hP:P.sz (2^32))(h:P.valid=false):zD 20 [pgv P] (.tup [slv zQI,.int .i64 (fun _=>1)]):=by
 refine xR zA1 rfl rfl rfl rfl rfl ?_
 have cv:=zDG P hP
 generalize P.valid=b at *
 obtain⟨n,us,ob⟩:=P
 obtain⟨ots,oc⟩:=ob
 clear hP
 obtain⟨Z,hZ⟩:∃ Z,zK 0=Z:=⟨_,rfl⟩
 have hZ0:Z=⟨false,[],[]⟩:=by rw[←hZ];unfold zK;simp [zZ]
 subst hZ0
 show wp _ _ (rZ _ (.tup [.agg [.int .i64 (fun _=>((0:Nat):Int)),.bool (fun _=>(zK 0).neg),nat (zK 0).num,nat (zK 0).den,qlv [],qlv [],qlv [],ilv [],.int .i64 (fun _=>((0:Nat):Int))],.int .i64 (fun _=>1)]) [] [])
 rw[hZ]
 cbv
 refine cA cv ?_
 cbv
 refine yA (fun e=>?_) (fun e=>?_)
 ·rw[h] at e;cases e
 ·cbv
  (refine rC ?_;cbv)
  exact okA
theorem zJL (v k:Nat)(fs:List F)(ob:F)(s:SolR)(hP:(⟨v,fs.map fA,fA ob⟩:Prg).sz (2^32))(hv:(⟨v,fs.map fA,fA ob⟩:Prg).valid=true)(hr28:fs.length<2^28)(hv28:v<2^14)
  (hfl:∀ f,f∈fs→f.ts.length<2^30∧∀ t,t∈f.ts→0≤t.1∧t.1<v) (hol:ob.ts.length<2^30) (hot:∀ t,t∈ob.ts→0≤t.1∧t.1<v)
  (hf0:∀ E,Pvs (yT v (fs.map (lnS v)) (lnS v ob)) E→E.fit (2^30)) (W:Walk v fs.length (2^30) (yT v (fs.map (lnS v)) (lnS v ob)) (rel v (yT v (fs.map (lnS v)) (lnS v ob)).nb 0 (yT v (fs.map (lnS v)) (lnS v ob),0)).1 (rel v (yT v (fs.map (lnS v)) (lnS v ob)).nb 0 (yT v (fs.map (lnS v)) (lnS v ob),0)).2)
  (hs:rS v fs.length (yT v (fs.map (lnS v)) (lnS v ob))=some s):zD 20 [pgv ⟨v,fs.map fA,fA ob⟩] (.tup [slv s,.int .i64 (fun _=>0)]):=by
 obtain⟨Z,hZ⟩:∃ Z,zK s.val=Z:=⟨_,rfl⟩
 show zD _ _ (.tup [.agg [.int .i64 (fun _=>(s.st:Int)),.bool (fun _=>(zK s.val).neg),nat (zK s.val).num,nat (zK s.val).den,qlv s.pt,qlv s.du,qlv s.ry,ilv s.bas,.int .i64 (fun _=>(s.pv:Int))],.int .i64 (fun _=>0)])
 rw[hZ]
 have cv:=zDG ⟨v,fs.map fA,fA ob⟩ hP
 have cse:=zJM v fs ob (by omega) (by omega) hfl hol hot
 have hw0:(yT v (fs.map (lnS v)) (lnS v ob)).wf:=pV (fun l hl=>by obtain⟨f,_,rfl⟩:=List.mem_map.1 hl;exact dP v f) (dP v ob)
 have hnl:(yT v (fs.map (lnS v)) (lnS v ob)).nb.length=v:=by simp [yT]
 have hbl:(yT v (fs.map (lnS v)) (lnS v ob)).bs.length=fs.length:=by simp [yT]
 obtain⟨D0,hD0⟩:∃ D0,yT v (fs.map (lnS v)) (lnS v ob)=D0:=⟨_,rfl⟩
 rw[hD0] at cse hw0 hnl hbl hf0 W hs
 obtain⟨r,hr⟩:∃ r,fs.length=r:=⟨_,rfl⟩
 rw[hr] at cse hbl W hs hr28
 have cre:=zO7 v r D0 0 hw0 (by omega) (by omega) (by decide) hf0
 refine xR zA1 rfl rfl rfl rfl rfl ?_
 show wp _ ⟨s6 0 [.agg [.int .i64 (fun _=>(v:Int)),.sl (fun _=>enc ac (fs.map fA)),tsv (fA ob).ts,.bool (fun _=>(fA ob).c.neg),nat (fA ob).c.num,nat (fA ob).c.den]],_⟩ _
 obtain⟨US,hUS⟩:∃ US,fs.map fA=US:=⟨_,rfl⟩
 obtain⟨A0,hA0⟩:∃ A0,fA ob=A0:=⟨_,rfl⟩
 rw[hUS,hA0] at cv cse hv ⊢
 obtain⟨bv,hbv⟩:∃ bv,Prg.valid ⟨(v:Int),US,A0⟩=bv:=⟨_,rfl⟩
 rw[hbv] at cv hv
 clear hbv
 obtain⟨ots,oc⟩:=A0
 obtain⟨V,hV⟩:∃ V:Int,(v:Int)=V:=⟨_,rfl⟩
 have hww:=W.wf
 have hwb:=W.bl
 have hwn:=W.nl
 have hwp:=W.pp
 have hwf:=W.fit
 have hok:=W.ok
 have hq:=W.q
 have hsome:=W.some
 have hnone:=W.none
 have cfe:=zMT v r (rel v D0.nb 0 (D0,0)).1 (rel v D0.nb 0 (D0,0)).2 hww (by omega) (by omega) (by omega) (by omega) (by omega) W.ys hwf W.aux
 unfold rS at hs
 clear W hol hot hfl hP
 obtain⟨⟨D1,p1⟩,hR1⟩:∃ R,rel v D0.nb 0 (D0,0)=R:=⟨_,rfl⟩
 rw[hR1] at cre cfe hs hok hq hsome hnone
 dsimp only at cre cfe hs hok hq hsome hnone
 obtain⟨⟨E,q,ref,ok⟩,hR2⟩:∃ R,v4 v r D1 p1=R:=⟨_,rfl⟩
 rw[hR2] at cfe hs hok hq hsome hnone
 dsimp only at cfe hok hq hsome hnone
 cbv
 refine cA cv ?_
 cbv
 refine yA (fun e=>?_) (fun e=>by rw[hv] at e;cases e)
 cbv
 refine y4 id (.refl _) rfl okA cse (by exact trivial) rfl rfl rfl rfl rfl rfl rfl rfl ?_
 cbv
 refine y4 (ps':=⟨[(2,.ptr 2 0),(4,.ptr 4 0),(17,.ptr 13 0)],[(2,.box [.int .i64 (fun _=>0),.ff,.nil,.nil,.nil,.nil,.nil,.nil,.int .i64 (fun _=>0)])]++sP v r D0 0++[(4,.box [.ptr 13 0])]⟩) (fun n=>match nqb n 1000000 with | true=>13 | false=>match nqb n 1000001 with | true=>48 | false=>match nqb n 1000002 with | true=>26 | false=>match nqb n 1000003 with | true=>60 | false=>match nqb n 1000004 with | true=>68 | false=>match nqb n 80 with | true=>26 | false=>match nqb n 125 with | true=>68 | false=>match nqb n 1000006 with | true=>4 | false=>n) (.le okZ (by cbv;repeat' first | exact trivial | exact lR | exact zB rfl | exact zC om | exact zQ rfl | exact zO (by assumption) | exact zS (by assumption) | exact zI (by assumption) | exact⟨rfl⟩ | apply And.intro) rfl) rfl okA cre (by exact⟨⟨rfl,rfl⟩,⟨rfl,rfl⟩,⟨rfl,rfl⟩,⟨rfl,rfl⟩,⟨rfl,rfl⟩,trivial⟩) rfl rfl rfl rfl rfl rfl rfl rfl ?_
 cbv
 cases ref with
 | some l =>
  obtain⟨hl0,hl1⟩:=hsome l rfl
  rw[hok] at hs
  dsimp only at hs
  obtain rfl:=Option.some.inj hs
  have cfe':Sound _ _ _ _ (.tup [.sl (fun _=>enc cq l),.bool (fun _=>ok)]) _ _:=cfe
  refine y4 (ps':=⟨[(2,.ptr 2 0),(4,.ptr 4 0),(20,.ptr 13 0)],[(2,.box [.int .i64 (fun _=>0),.ff,.nil,.nil,.nil,.nil,.nil,.nil,.int .i64 (fun _=>0)])]++sP v r D1 p1++[(4,.box [.ptr 13 0])]⟩) (fun n=>match nqb n 1000000 with | true=>13 | false=>match nqb n 1000001 with | true=>48 | false=>match nqb n 1000002 with | true=>26 | false=>match nqb n 1000003 with | true=>60 | false=>match nqb n 1000004 with | true=>68 | false=>match nqb n 80 with | true=>26 | false=>match nqb n 125 with | true=>68 | false=>match nqb n 1000006 with | true=>4 | false=>n) (.le okZ (by cbv;repeat' first | exact trivial | exact lR | exact zB rfl | exact zC om | exact zQ rfl | exact zO (by assumption) | exact zS (by assumption) | exact zI (by assumption) | exact⟨rfl⟩ | apply And.intro) rfl) rfl okA cfe' (by exact⟨⟨rfl,rfl⟩,⟨rfl,rfl⟩,⟨rfl,rfl⟩,⟨rfl,rfl⟩,⟨rfl,rfl⟩,trivial⟩) rfl rfl rfl rfl rfl rfl rfl rfl ?_
  cbv
  refine yA (fun e1=>?_) (fun e1=>by rw[hok] at e1;cases e1)
  cbv
  have hZ0:Z=⟨false,[],[]⟩:=by rw[←hZ];show zK 0=_;unfold zK;simp [zZ]
  subst hZ0
  refine⟨fun b hb=>?_⟩
  cbv
  refine yA (fun e2=>?_) (fun e2=>?_)
  ·have:=hb e2
   unfold enc at this
   exact absurd (List.map_eq_nil_iff.1 this) hl0
  cbv
  (refine rC ?_;cbv)
  exact okA
 | none =>
  obtain⟨hwE,hbE,hnE,hyE,hfE⟩:=hnone rfl
  rw[hok] at hs
  dsimp only at hs
  have cfe':Sound _ _ _ _ (.tup [.nil,.bool (fun _=>ok)]) _ _:=cfe
  refine y4 (ps':=⟨[(2,.ptr 2 0),(4,.ptr 4 0),(20,.ptr 13 0)],[(2,.box [.int .i64 (fun _=>0),.ff,.nil,.nil,.nil,.nil,.nil,.nil,.int .i64 (fun _=>0)])]++sP v r D1 p1++[(4,.box [.ptr 13 0])]⟩) (fun n=>match nqb n 1000000 with | true=>13 | false=>match nqb n 1000001 with | true=>48 | false=>match nqb n 1000002 with | true=>26 | false=>match nqb n 1000003 with | true=>60 | false=>match nqb n 1000004 with | true=>68 | false=>match nqb n 80 with | true=>26 | false=>match nqb n 125 with | true=>68 | false=>match nqb n 1000006 with | true=>4 | false=>n) (.le okZ (by cbv;repeat' first | exact trivial | exact lR | exact zB rfl | exact zC om | exact zQ rfl | exact zO (by assumption) | exact zS (by assumption) | exact zI (by assumption) | exact⟨rfl⟩ | apply And.intro) rfl) rfl okA cfe' (by exact⟨⟨rfl,rfl⟩,⟨rfl,rfl⟩,⟨rfl,rfl⟩,⟨rfl,rfl⟩,⟨rfl,rfl⟩,trivial⟩) rfl rfl rfl rfl rfl rfl rfl rfl ?_
  cbv
  refine yA (fun e1=>?_) (fun e1=>by rw[hok] at e1;cases e1)
  cbv
  refine yA (fun e2=>?_) (fun e2=>by cases e2)
  have hobE:=hwE.ob
  have hfE0:=hfE E .refl
  obtain⟨FR,hFR⟩:∃ FR,dZ v E.ob E.nb 0=FR:=⟨_,rfl⟩
  rw[hFR] at hs
  cbv
  refine z9 (σ:=Nat) (fun i=>⟨[(2,.ptr 2 0),(4,.ptr 4 0),(38,.osl 26 1 (fun _=>0) (fun _=>E.nb.length)),(39,.int .i64 (fun _=>(E.nb.length:Int))),(40,.int .i64 (fun _=>(i:Int)))],[(2,.box [.int .i64 (fun _=>0),.ff,.nil,.nil,.nil,.nil,.nil,.nil,.int .i64 (fun _=>0)])]++sP v r E q++[(4,.box [.ptr 13 0])]⟩)
   (fun i=>i≤E.nb.length∧FR=dZ v E.ob (E.nb.drop i) i) (fun i=>E.nb.length - i) 0 ⟨Nat.zero_le _,hFR.symm⟩ (.le okZ (by cbv;repeat' first | exact trivial | exact lR | exact zB rfl | exact zC om | exact zQ rfl | exact zO (by assumption) | exact zS (by assumption) | exact zI (by assumption) | exact⟨rfl⟩ | apply And.intro) rfl) ?_
  intro i hi
  obtain⟨g1,g2⟩:=hi
  cbv
  refine zG (fun h=>?_) (fun h=>?_)
  ·have hiE:i<E.nb.length:=om
   obtain⟨y,hyi⟩:=zU hiE
   obtain⟨c,hc⟩:=zU (show i<E.ob.length by omega)
   rw[qF hyi,dZ,getD_some hc] at g2
   obtain⟨C,hC⟩:∃ C,zK c=C:=⟨_,rfl⟩
   have szC:C.sz (2^30):=by rw[←hC];exact z7 (hfE0.ob c (List.mem_of_getElem? hc))
   have qC:C.q=c:=by rw[←hC];exact yN c
   have csc:=s86 C (by have:=szC.n;omega)
   rw[qC] at csc
   have cfr:=jW v r E q y
   have hle:i+1≤E.nb.length:=hiE
   have hmu:E.nb.length - (i+1)<E.nb.length - i:=by omega
   have hs0:yW c≠0↔c≠0:=sgnQ_ne
   have hrg:-1≤yW c∧yW c≤1:=by unfold yW;split <;> (try split) <;> constructor <;> decide
   have hcg:E.ob.getD i 0=c:=getD_some hc
   have hfk:Fits (2^32) (((-(yW c):Int)):Rat):=(zDB c).mono (by decide)
   generalize hsc:yW c=sc at *
   cbv
   refine⟨zR om om,?_⟩
   refine fZ hyi om ?_
   cbv
   refine⟨zR om om,?_⟩
   refine jL hc om hC ?_
   cbv
   refine cA csc ?_
   cbv
   refine y4 (fun n=>match nqb n 1000000 with | true=>13 | false=>match nqb n 1000001 with | true=>48 | false=>match nqb n 1000002 with | true=>26 | false=>match nqb n 1000003 with | true=>60 | false=>match nqb n 1000004 with | true=>68 | false=>match nqb n 80 with | true=>26 | false=>match nqb n 125 with | true=>68 | false=>match nqb n 1000006 with | true=>4 | false=>n) (.refl _) rfl okA cfr (by exact⟨⟨rfl,rfl⟩,⟨rfl,rfl⟩,⟨rfl,rfl⟩,⟨rfl,rfl⟩,⟨rfl,rfl⟩,trivial⟩) rfl rfl rfl rfl rfl rfl rfl rfl ?_
   cbv
   refine yG (fun h1=>?_) (fun h1=>?_)
   rotate_left
   ·cbv
    refine⟨zF om om,?_⟩
    cbv
    exact⟨i+1,⟨hle,g2.trans (by rw[if_neg (fun w=>h1 (by have:=w.1;(try dsimp only [zL] at *);omega))])⟩,hmu,.le okZ (by cbv;repeat' first | exact trivial | exact lR | exact zB rfl | exact zC om | exact zQ rfl | exact zO (by assumption) | exact zS (by assumption) | exact zI (by assumption) | exact⟨rfl⟩ | apply And.intro) rfl⟩
   have hyv:y<v:=by (try dsimp only [zL] at *);omega
   cbv
   refine zG (fun h2=>?_) (fun h2=>?_)
   ·cbv
    refine⟨zF om om,?_⟩
    cbv
    exact⟨i+1,⟨hle,g2.trans (by rw[if_neg (fun w=>hs0.2 w.2 h2)])⟩,hmu,.le okZ (by cbv;repeat' first | exact trivial | exact lR | exact zB rfl | exact zC om | exact zQ rfl | exact zO (by assumption) | exact zS (by assumption) | exact zI (by assumption) | exact⟨rfl⟩ | apply And.intro) rfl⟩
   rw[if_pos ⟨hyv,hs0.1 h2⟩] at g2
   rw[g2] at hs
   dsimp only at hs
   have hs':=Option.some.inj hs
   subst hs'
   have hZ0:Z=⟨false,[],[]⟩:=by rw[←hZ];show zK 0=_;unfold zK;simp [zZ]
   subst hZ0
   have cpt:=iI v r E q hwE (by omega) (by omega) (by omega)
   have cof:=s104 (-sc) (by omega) (by omega)
   have cry:=zK0 v r E q i (((-sc:Int)):Rat) hwE hiE (by omega) (by omega) (by omega) (hfE0.mono (by decide)) hfk
   obtain⟨PT,hPT⟩:∃ PT,pnt v E=PT:=⟨_,rfl⟩
   obtain⟨RY,hRY⟩:∃ RY,c8 v E i (((-sc:Int)):Rat)=RY:=⟨_,rfl⟩
   obtain⟨OF,hOF⟩:∃ OF,zK (((-sc:Int)):Rat)=OF:=⟨_,rfl⟩
   rw[hPT] at cpt
   rw[hRY,hOF] at cry
   rw[hOF] at cof
   rw[hcg,hsc,hPT,hRY]
   cbv
   refine zY 12 (by cbv) ?_
   cbv
   refine wQ (fun n=>match nqb n 1000000 with | true=>13 | false=>match nqb n 1000001 with | true=>48 | false=>match nqb n 1000002 with | true=>26 | false=>match nqb n 1000003 with | true=>60 | false=>match nqb n 1000004 with | true=>68 | false=>match nqb n 80 with | true=>26 | false=>match nqb n 125 with | true=>68 | false=>match nqb n 1000006 with | true=>4 | false=>n) okA cpt (by exact⟨⟨rfl,rfl⟩,⟨rfl,rfl⟩,⟨rfl,rfl⟩,⟨rfl,rfl⟩,⟨rfl,rfl⟩,trivial⟩) rfl rfl rfl rfl rfl rfl ?_
   cbv
   refine⟨zF om om,?_⟩
   cbv
   refine gQ (by exact⟨zC (by show 0 - sc=-sc;omega),trivial⟩) cof rfl ?_
   cbv
   refine wQ (fun n=>match nqb n 1000000 with | true=>13 | false=>match nqb n 1000001 with | true=>48 | false=>match nqb n 1000002 with | true=>26 | false=>match nqb n 1000003 with | true=>60 | false=>match nqb n 1000004 with | true=>68 | false=>match nqb n 80 with | true=>26 | false=>match nqb n 125 with | true=>68 | false=>match nqb n 1000006 with | true=>4 | false=>n) okA cry (by exact⟨⟨rfl,rfl⟩,⟨rfl,rfl⟩,⟨rfl,rfl⟩,⟨rfl,rfl⟩,⟨rfl,rfl⟩,trivial⟩) rfl rfl rfl rfl rfl rfl ?_
   cbv
   (refine rC ?_;cbv)
   exact okA
  ·have hiE:i=E.nb.length:=om
   rw[hiE,List.drop_length] at g2
   have hFN:FR=none:=g2
   rw[hFN] at hs
   dsimp only at hs
   clear hFR g2
   have cmi:=zMS v r E q hwE (by omega) (by omega) (by omega) hfE
   have hmp:=(aK (v:=v) (ln:=Dic.ob) (65537 - q) E q).1
   obtain⟨⟨F,q2,e,okk⟩,hR3⟩:∃ R,vV v Dic.ob (65537 - q) E q=R:=⟨_,rfl⟩
   rw[hR3] at cmi hmp hs
   dsimp only at cmi hmp hs
   have hwF:=hmp.wf hwE
   have hlF:=hmp.len
   have hfF:=hfE F hmp
   have hobF:=hwF.ob
   cbv
   refine y4 (fun n=>match nqb n 1000000 with | true=>13 | false=>match nqb n 1000001 with | true=>48 | false=>match nqb n 1000002 with | true=>26 | false=>match nqb n 1000003 with | true=>60 | false=>match nqb n 1000004 with | true=>68 | false=>match nqb n 80 with | true=>26 | false=>match nqb n 125 with | true=>68 | false=>match nqb n 1000006 with | true=>4 | false=>n) (.refl _) rfl (by exact⟨lR,⟨rfl,lR,trivial⟩,trivial⟩) cmi (by exact⟨⟨rfl,rfl⟩,⟨rfl,rfl⟩,⟨rfl,rfl⟩,⟨rfl,rfl⟩,⟨rfl,rfl⟩,⟨rfl,rfl⟩,trivial⟩) rfl rfl rfl rfl rfl rfl rfl rfl ?_
   cbv
   have hme:=zLA (v:=v) (ln:=Dic.ob) (fun D=>rfl) (65537 - q) E q
   rw[hR3] at hme
   dsimp only at hme
   refine yA (fun e3=>?_) (fun e3=>by rw[e3] at hs;cases hs)
   rw[e3] at hs
   dsimp only at hs
   clear cmi hR3
   cbv
   refine zG (fun h3=>?_) (fun h3=>?_)
   ·have h3':0≤e:=h3
    rw[if_pos h3'] at hs
    have hs':=Option.some.inj hs
    subst hs'
    have hZ0:Z=⟨false,[],[]⟩:=by rw[←hZ];show zK 0=_;unfold zK;simp [zZ]
    subst hZ0
    obtain⟨n,hn⟩:∃ n:Nat,e=n:=⟨e.toNat,by omega⟩
    subst hn
    have hnF:=hme h3'
    rw[Int.toNat_natCast] at hnF ⊢
    have cpt:=iI v r F q2 hwF (by omega) (by omega) (by omega)
    have cof:=s104 1 (by decide) (by decide)
    have cry:=zK0 v r F q2 n (((1:Int)):Rat) hwF hnF (by omega) (by omega) (by omega) (hfF.mono (by decide)) (fits_one.mono (by decide))
    have h11:(((1:Int)):Rat)=1:=rfl
    rw[h11] at cof cry
    obtain⟨PT,hPT⟩:∃ PT,pnt v F=PT:=⟨_,rfl⟩
    obtain⟨RY,hRY⟩:∃ RY,c8 v F n 1=RY:=⟨_,rfl⟩
    obtain⟨OF,hOF⟩:∃ OF,zK 1=OF:=⟨_,rfl⟩
    rw[hPT] at cpt
    rw[hRY,hOF] at cry
    rw[hOF] at cof
    rw[hPT,hRY]
    cbv
    refine zY 10 (by cbv) ?_
    cbv
    refine wQ (fun n=>match nqb n 1000000 with | true=>13 | false=>match nqb n 1000001 with | true=>48 | false=>match nqb n 1000002 with | true=>26 | false=>match nqb n 1000003 with | true=>60 | false=>match nqb n 1000004 with | true=>68 | false=>match nqb n 80 with | true=>26 | false=>match nqb n 125 with | true=>68 | false=>match nqb n 1000006 with | true=>4 | false=>n) okA cpt (by exact⟨⟨rfl,rfl⟩,⟨rfl,rfl⟩,⟨rfl,rfl⟩,⟨rfl,rfl⟩,⟨rfl,rfl⟩,trivial⟩) rfl rfl rfl rfl rfl rfl ?_
    cbv
    refine dA cof ?_
    cbv
    refine wQ (fun n=>match nqb n 1000000 with | true=>13 | false=>match nqb n 1000001 with | true=>48 | false=>match nqb n 1000002 with | true=>26 | false=>match nqb n 1000003 with | true=>60 | false=>match nqb n 1000004 with | true=>68 | false=>match nqb n 80 with | true=>26 | false=>match nqb n 125 with | true=>68 | false=>match nqb n 1000006 with | true=>4 | false=>n) okA cry (by exact⟨⟨rfl,rfl⟩,⟨rfl,rfl⟩,⟨rfl,rfl⟩,⟨rfl,rfl⟩,⟨rfl,rfl⟩,trivial⟩) rfl rfl rfl rfl rfl rfl ?_
    cbv
    (refine rC ?_;cbv)
    exact okA
   ·have h3':¬ 0≤e:=h3
    rw[if_neg h3'] at hs
    have hs':=Option.some.inj hs
    subst hs'
    obtain⟨x,hx⟩:=zU (show F.nb.length<F.ob.length by omega)
    have hZ:zK x=Z:=by rw[←hZ];show zK x=zK (F.ob.getD F.nb.length 0);rw[getD_some hx]
    have cpt:=iI v r F q2 hwF (by omega) (by omega) (by omega)
    have cdu:=zMU v r F q2 hobF (by omega) (by omega) (by omega) (fun y hy=>by
     rcases (hmp.same hwE).vars y |>.1 (.inr hy) with w | w
     ·have:=hyE y (.inl w);omega
     ·have:=hyE y (.inr w);omega)
    have ccl:=zMX (enc ci F.bs) (fun e he=>by
     unfold enc at he
     obtain⟨x,_,rfl⟩:=List.mem_map.1 he
     rfl) (by rw[zM];omega)
    rw[zM] at ccl
    obtain⟨PT,hPT⟩:∃ PT,pnt v F=PT:=⟨_,rfl⟩
    obtain⟨DU,hDU⟩:∃ DU,t9 v r F.nb F.ob=DU:=⟨_,rfl⟩
    rw[hPT] at cpt
    rw[hDU] at cdu
    rw[hPT,hDU]
    cbv
    refine zY 28 (by cbv) ?_
    cbv
    refine⟨zR om om,?_⟩
    refine jL hx om hZ ?_
    cbv
    refine wQ (fun n=>match nqb n 1000000 with | true=>13 | false=>match nqb n 1000001 with | true=>48 | false=>match nqb n 1000002 with | true=>26 | false=>match nqb n 1000003 with | true=>60 | false=>match nqb n 1000004 with | true=>68 | false=>match nqb n 80 with | true=>26 | false=>match nqb n 125 with | true=>68 | false=>match nqb n 1000006 with | true=>4 | false=>n) okA cpt (by exact⟨⟨rfl,rfl⟩,⟨rfl,rfl⟩,⟨rfl,rfl⟩,⟨rfl,rfl⟩,⟨rfl,rfl⟩,trivial⟩) rfl rfl rfl rfl rfl rfl ?_
    cbv
    refine wQ (fun n=>match nqb n 1000000 with | true=>13 | false=>match nqb n 1000001 with | true=>48 | false=>match nqb n 1000002 with | true=>26 | false=>match nqb n 1000003 with | true=>60 | false=>match nqb n 1000004 with | true=>68 | false=>match nqb n 80 with | true=>26 | false=>match nqb n 125 with | true=>68 | false=>match nqb n 1000006 with | true=>4 | false=>n) okA cdu (by exact⟨⟨rfl,rfl⟩,⟨rfl,rfl⟩,⟨rfl,rfl⟩,⟨rfl,rfl⟩,⟨rfl,rfl⟩,trivial⟩) rfl rfl rfl rfl rfl rfl ?_
    cbv
    refine wQ (fun n=>match nqb n 1000000 with | true=>13 | false=>match nqb n 1000001 with | true=>48 | false=>match nqb n 1000002 with | true=>26 | false=>match nqb n 1000003 with | true=>60 | false=>match nqb n 1000004 with | true=>68 | false=>match nqb n 80 with | true=>26 | false=>match nqb n 125 with | true=>68 | false=>match nqb n 1000006 with | true=>4 | false=>n) okA ccl (by exact⟨⟨rfl,rfl⟩,trivial⟩) rfl rfl rfl rfl rfl rfl ?_
    cbv
    (refine rC ?_;cbv)
    exact okA
end Go.Proofs.YtfainocfaddbdaaGreat
