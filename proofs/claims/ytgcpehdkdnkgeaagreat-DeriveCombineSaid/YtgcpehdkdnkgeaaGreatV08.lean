/- A part of the proof: PmK. -/
import Derived.Test.YtgcpehdkdnkgeaaGreatV07
set_option linter.all false
namespace Go.Proofs.YtgcpehdkdnkgeaaGreat
open Go
section
variable {w0:World} {S0:Nat→Nat→Prop} {K0:Nat→Prop} {N:Cx} {τ:Nat→PV} {objs:List (Nat × Obj')} {a:Act} {w w':World} {S S':Nat→Nat→Prop} {β:Nat→Option Nat}
theorem kA {ps:PS}(h:Sim w0 S0 K0 N (zB ps.tmps) ps.objs a w S β)(d:Option Nat)(hd:∀ t,d=some t→t<N){v:Value}{x:PV}(hv:Rep w S β v x) :
  Sim w0 S0 K0 N (zB (put ps d x).tmps) (put ps d x).objs (a.put d v) w S β:=by
 rw[yY,vS]
 exact h.put d hd hv
theorem Sim.putT' {ps:PS}(h:Sim w0 S0 K0 N (zB ps.tmps) objs a w S β)(d:Nat)(hd:d<N){v:Value}{x:PV}(hv:Rep w S β v x) :
  Sim w0 S0 K0 N (zB (uG ps.tmps d x)) objs (a.put (some d) v) w S β:=by
 have:=h.put (some d) (fun t e=>by cases e;exact hd) hv
 have e:upd (zB ps.tmps) (some d) x=zB (uG ps.tmps d x):=by funext t;simp [upd,fQ]
 rwa [e] at this
theorem Sim.newObj {ps:PS}(h:Sim w0 S0 K0 N (zB ps.tmps) ps.objs a w S β){n b:Nat}{o:Obj'}(hf:yR n ps=true)(l:Leads w S vV w' S)(hb:w.heap.size≤b)(hb':b<w'.heap.size)
  (hat:ObjAt w' S (gF β n (some b)) n o):Sim w0 S0 K0 N (zB ps.tmps) (ps.objs++[(n,o)]) a w' S (gF β n (some b)):=by
 simp only[yR,Bool.and_eq_true] at hf
 have hmem:∀ {m x},(m,x)∈ps.objs++[(n,o)]→((m,x)∈ps.objs∧m≠n)∨(m=n∧x=o):=by
  intro m x hm
  simp only[List.mem_append,List.mem_singleton] at hm
  rcases hm with hm | hm
  ·exact .inl ⟨hm,(yP hf.2 hm).1⟩
  ·cases hm;exact .inr ⟨rfl,rfl⟩
 have hg:=h.go l
 refine⟨h.dfr,h.sz,hg.ld,fun t=>(hg.tmp t).upd (vK hf.1 t),⟨?_,?_,?_,?_⟩,?_,?_⟩
 ·rw[List.map_append,List.nodup_append]
  refine⟨h.obj.nd,by simp,?_⟩
  intro x hx y hy e
  simp at hy
  subst hy e
  obtain⟨⟨m,o⟩,h1,rfl⟩:=List.mem_map.1 hx
  exact (yP hf.2 h1).1 rfl
 ·intro m x hm
  rcases hmem hm with ⟨h1,h2⟩ | ⟨rfl,rfl⟩
  ·exact (hg.obj.at_ m x h1).upd h2 (yP hf.2 h1).2
  ·exact hat
 ·intro m x c hm hβ
  rcases hmem hm with ⟨h1,h2⟩ | ⟨rfl,rfl⟩
  ·rw[yQ h2] at hβ;exact hg.obj.un m x c h1 hβ
  ·rw[y6] at hβ
   cases hβ
   exact⟨fun i hS=>by have:=h.ld.bnd b i hS;omega,hb'⟩
 ·intro m x m' x' c hm hm' hβ hβ'
  rcases hmem hm with ⟨h1,h2⟩ | ⟨rfl,rfl⟩
  ·rcases hmem hm' with ⟨h3,h4⟩ | ⟨rfl,rfl⟩
   ·rw[yQ h2] at hβ;rw[yQ h4] at hβ';exact hg.obj.inj _ _ _ _ c h1 h3 hβ hβ'
   ·rw[yQ h2] at hβ
    rw[y6] at hβ'
    cases hβ'
    have:=(h.obj.un m x b h1 hβ).2
    omega
  ·rcases hmem hm' with ⟨h3,h4⟩ | ⟨rfl,rfl⟩
   ·rw[yQ h4] at hβ'
    rw[y6] at hβ
    cases hβ
    have:=(h.obj.un m' x' b h3 hβ').2
    omega
   ·rfl
 ·intro m x c hm hβ
  rcases hmem hm with ⟨h1,h2⟩ | ⟨rfl,rfl⟩
  ·rw[yQ h2] at hβ;exact h.own m x c h1 hβ
  ·rw[y6] at hβ
   cases hβ
   have:=h.ld.size
   exact .inl (by omega)
 ·intro m x hm hb2
  rcases hmem hm with ⟨h1,h2⟩ | ⟨rfl,rfl⟩
  ·rw[yQ h2];exact h.keep m x h1 hb2
  ·have:=wV hf.2;omega
theorem zDW {lg:Bool}{n s:Nat}{els:Unit→List (List D)}(h:RowAt w S β n s els):ObjAt w S β n (j3 lg s els):=by cases lg <;> exact h
theorem zNS (lg:Bool)(s:Nat)(els:Unit→List (List D)):o8 (j3 lg s els)=some (s,els):=by cases lg <;> rfl
theorem Sim.newNil {ps:PS}(h:Sim w0 S0 K0 N (zB ps.tmps) ps.objs a w S β){lg:Bool}{n s:Nat}{els:Unit→List (List D)}(hf:yR n ps=true)(he:els ()=[]) :
  Sim w0 S0 K0 N (zB ps.tmps) (ps.objs++[(n,j3 lg s els)]) a w S (gF β n none):=h.freshO hf fun β' h=>zDW (.inl ⟨h,he⟩)
theorem zGG {t:Nat}(h:(ty t).isNo=false):∃ i zv,Pg.info? t=some i∧i.zero=some zv∧RepL w S β zv.cells (ty t).zero:=by
 cases ht:ty t with
 | no=>simp [ht,Ty.isNo] at h
 | sc z =>
  obtain⟨i,d,zv,h1,h2,h3,h4,h5,h6,h7,_⟩:=zES ht
  refine⟨i,zv,h1,h4,?_⟩
  rw[h6,h7]
  exact uO #[zv]
 | st n fs z =>
  obtain⟨i,fields,zs,h1,h2,h3,h4,h5,h6,h7,_⟩:=iI ht
  refine⟨i,_,h1,h3,?_⟩
  rw[h7]
  exact uO zs
 | arr len n ag z =>
  obtain⟨i,e,zs,h1,h2,h3,h4,h5,h6,h7,h8,h8',h8'',h9⟩:=rV ht
  refine⟨i,_,h1,h3,?_⟩
  rw[h9]
  exact uO zs
 | sli n b z =>
  obtain⟨i,e,j,zv,h1,h2,h3,_⟩:=qM ht
  exact⟨i,_,h1,h3,uO #[.slice none 0 0]⟩
theorem tH {o:Oper}{d:Nat}(hod:o.dst=some d)(hd:d<N){cs:List PV}{ps:PS}{K:PS→Prop}{Km:Act→World→Prop}{Q:Exit→Act→World→Prop}(h:Sim w0 S0 K0 N (zB ps.tmps) ps.objs a w S β)(hs:eI d cs ps K)
  {cells:Array Value} {T:TypeId} (hr:RepL w S β cells cs) (hrun:(execOp a.eval o).run Pg w=.ok (.value (.pointer (some ⟨w.heap.size,0,none⟩))) (w.alloc (.cells cells T)))
  (hk:∀ ps' a' w' S' β',K ps'→Sim w0 S0 K0 N (zB ps'.tmps) ps'.objs a' w' S' β'→Km a' w') (hcs:xW d cs=true):o.wp Pg a w Km Q:=by
 unfold eI at hs
 cases hf:yR d ps with
 | false=>simp [hf] at hs
 | true =>
  simp only[hf,cond_true] at hs
  have l:=gY (w:=w) h.ld.bnd (.cells cells T)
  have hn:=h.newObj (w':=w.alloc (.cells cells T)) (b:=w.heap.size) (o:=.box cs) hf l (Nat.le_refl _) (by simp) ⟨w.heap.size,cells,T,y6,heap_alloc_new w _,hr.1,fun j hj =>
   ((hr.2 j hj).evo (l.evo h.ld.bnd) (l.subs h.ld.bnd)).upd (xD rfl hcs j)⟩
  refine aB hrun ?_
  rw[hod]
  exact hk _ _ _ _ _ hs (hn.putT' d hd (.ptr y6))
def wr (cur:Array Value) (pos:Nat) (news:List Value):Array Value:=(cur.toList.take pos++news++cur.toList.drop (pos+news.length)).toArray
theorem zBF {cur:Array Value}{pos:Nat}{news:List Value}(h:pos+news.length≤cur.size):(wr cur pos news).size=cur.size:=by
 simp [wr]
 omega
theorem lJ {cur:Array Value}{pos:Nat}{news:List Value}(h:pos+news.length≤cur.size)(j:Nat):(wr cur pos news).getD j undef=if pos≤j∧j<pos+news.length then news.getD (j - pos) undef else cur.getD j undef:=by
 have hl:(cur.toList.take pos).length=pos:=by simp;omega
 simp only[wr,Array.getD_eq_getD_getElem?,List.getElem?_toArray,List.getD_eq_getElem?_getD]
 congr 1
 by_cases h1:j<pos
 ·rw[if_neg (by omega),List.append_assoc,List.getElem?_append_left (by omega),List.getElem?_take_of_lt h1]
  simp
 ·by_cases h2:j<pos+news.length
  ·rw[if_pos (by omega),List.append_assoc,List.getElem?_append_right (by omega),hl,List.getElem?_append_left (by omega)]
  ·rw[if_neg (by omega),List.getElem?_append_right (by simp;omega),List.getElem?_drop]
   have:pos+news.length+(j - (List.take pos cur.toList++news).length)=j:=by simp;omega
   rw[this]
   simp
theorem fW {b:Nat}{vs vs':Array Value}{T:TypeId}(hS:∀ i,S b i→vs'[i]?=vs[i]?)(hw:w.heap[b]?=some (.cells vs T (0,0)))(hsz:vs'.size=vs.size):Evo S w (w.setRow b vs') where
 same c i hc:=by
  by_cases e:c=b
  ·subst e
   simp only[World.cell?,setRow_heap w c vs vs' T (0,0) hw,hw]
   exact hS i hc
  ·exact cJ (setRow_other w b c vs' e) i
 shape c us U hc:=by
  by_cases e:c=b
  ·subst e
   rw[hw] at hc
   cases hc
   exact⟨vs',setRow_heap w c vs vs' T (0,0) hw,hsz⟩
  ·exact⟨us,by rw[setRow_other w b c vs' e];exact hc,rfl⟩
theorem RowAt.evo {n s:Nat}{els:Unit→List (List D)}(h:RowAt w S β n s els)(he:Evo S w w')(hb:∀ b,β n=some b→w'.heap[b]?=w.heap[b]?):RowAt w' S β n s els:=by
 rcases h with h | ⟨b,vs,T,h1,h2,h3,h4,h5⟩
 ·exact .inl h
 ·exact .inr ⟨b,vs,T,h1,(hb b h1).trans h2,h3,h4,fun i j hi hj=>⟨(h5 i j hi hj).1.evo he.same (fun _ _ h=>h),(h5 i j hi hj).2⟩⟩
theorem ObjAt.evo {n:Nat}{o:Obj'}(h:ObjAt w S β n o)(he:Evo S w w')(hb:∀ b,β n=some b→w'.heap[b]?=w.heap[b]?):ObjAt w' S β n o:=by
 cases o with
 | box cs =>
  obtain⟨b,vs,T,h1,h2,h3,h4⟩:=h
  exact⟨b,vs,T,h1,(hb b h1).trans h2,h3,fun j hj=>(h4 j hj).evo he (fun _ _ h=>h)⟩
 | arr s els=>exact RowAt.evo h he hb
 | log s els=>exact RowAt.evo h he hb
 | lent s els=>exact⟨RowAt.evo h.1 he hb,h.2⟩
theorem Sim.write (h:Sim w0 S0 K0 N τ objs a w S β){n b:Nat}{o0 o:Obj'}{vs vs':Array Value}{T:TypeId}(hm:(n,o0)∈objs)(hnp:∀ i,¬ gI o0 i)(hβ:β n=some b)(hw:w.heap[b]?=some (.cells vs T (0,0)))(hsz:vs'.size=vs.size)
  (hat:ObjAt (w.setRow b vs') S β n o):Sim w0 S0 K0 N τ (Go.Proofs.YtgcpehdkdnkgeaaGreat.setO objs n o) a (w.setRow b vs') S β:=by
 obtain⟨hnS,hlt⟩:=h.obj.un n o0 b hm hβ
 have he:=fW (w:=w) (vs':=vs') (fun i hS=>absurd (hnS i hS) (hnp i)) hw hsz
 have hn:n∈objs.map Prod.fst:=List.mem_map.2 ⟨_,hm,rfl⟩
 have key:∀ {m x},(m,x)∈Go.Proofs.YtgcpehdkdnkgeaaGreat.setO objs n o→∃ x',(m,x')∈objs:=by
  intro m x hx
  rcases wA h.obj.nd hn hx with ⟨rfl,rfl⟩ | ⟨_,h2⟩
  ·exact⟨o0,hm⟩
  ·exact⟨x,h2⟩
 refine⟨h.dfr,h.sz,?_,fun t=>(h.tmp t).evo he (fun _ _ h=>h),⟨by rw[uA hn];exact h.obj.nd,?_,?_,?_⟩,?_,?_⟩
 ·refine⟨by simpa using h.ld.size,h.ld.os,h.ld.tape,h.ld.output,fun c hc hk=>?_,fun c us U hc=>?_,fun c i hS=>by simpa using h.ld.bnd c i hS,h.ld.sub,h.ld.old⟩
  ·rw[setRow_other w b c vs' ?_]
   ·exact h.ld.same c hc hk
   ·rintro rfl
    rcases h.own n o0 c hm hβ with h' | h'
    ·omega
    ·exact hk h'
  ·obtain⟨us',e1,e2⟩:=h.ld.shape c us U hc
   obtain⟨us'',e3,e4⟩:=he.shape c us' U e1
   exact⟨us'',e3,e4.trans e2⟩
 ·intro m x hx
  rcases wA h.obj.nd hn hx with ⟨rfl,rfl⟩ | ⟨h1,h2⟩
  ·exact hat
  ·refine (h.obj.at_ m x h2).evo he fun c hc=>setRow_other w b c vs' ?_
   rintro rfl
   exact h1 (h.obj.inj _ _ _ _ c h2 hm hc hβ)
 ·intro m x c hx hc
  rcases wA h.obj.nd hn hx with ⟨rfl,rfl⟩ | ⟨_,h2⟩
  ·have:=h.obj.un _ o0 c hm hc
   exact⟨fun i hS=>absurd (this.1 i hS) (hnp i),by simpa using this.2⟩
  ·simpa using h.obj.un m x c h2 hc
 ·intro m x m' x' c hx hx' hc hc'
  obtain⟨y,h1⟩:=key hx
  obtain⟨y',h2⟩:=key hx'
  exact h.obj.inj _ _ _ _ c h1 h2 hc hc'
 ·intro m x c hx hc
  obtain⟨y,h1⟩:=key hx
  exact h.own m y c h1 hc
 ·intro m x hx hb2
  obtain⟨y,h1⟩:=key hx
  exact h.keep m y h1 hb2
theorem nN {t:Nat}(hno:(ty t).isNo=false){b o:Nat}{v:Value}{cur:Array Value}{T:TypeId}(hb:w.heap[b]?=some (.cells cur T (0,0)))(hsz:v.cells.size=(ty t).cells)(hfit:o+v.cells.size≤cur.size)
  (h1:∀ u∈v.cells.toList,u.oneCell'=true):(Instr.storeAt t (.pointer (some ⟨b,o,none⟩)) v).run Pg w=.ok () (w.setRow b (wr cur o v.cells.toList)):=by
 obtain⟨i,d,hi,hu,hs,ha⟩:=zBI hno
 have hst:=run_storeCells_at (P:=Pg) b o T v.cells.toList 0 cur w hb (by simpa using hfit) h1
 simp only[Nat.add_zero] at hst
 have e:v.cells.size=i.size:=by rw[hsz,hs]
 simp only[Instr.storeAt,Instr.sureAddr,storeVar,Sem.run_bind,Sem.run_pure,Result.andThen_ok,vC hi,e,ne_eq,not_true_eq_false,if_false,hst]
 rfl
theorem pK {x:PV}{v:Value}(h:Rep w S β v x)(hp:yT b9 (yJ x)=true):qO x=true:=by
 cases x with
 | agg cs=>rfl
 | _=>simpa [yJ,yT,qO] using hp
theorem zL2:∀ {l:List PV},yT t8 l=true→yT b9 l=true
 | [],_=>rfl
 | c::l,h=>by simp only[yT,Bool.and_eq_true] at h ⊢;exact⟨zC6 h.1,zL2 h.2⟩
theorem zAN {x:PV}{v:Value}(h:Rep w S β v x)(hp:yT b9 (yJ x)=true):∀ u∈v.cells.toList,u.oneCell'=true:=by
 obtain⟨h1,h2⟩:=kJ h (pK h hp)
 intro u hu
 obtain⟨j,hj,rfl⟩:=List.getElem_of_mem hu
 have hj':j<(yJ x).length:=by rw[←h1];simpa using hj
 have hv:j<v.cells.size:=by simpa using hj
 have:=bS (h2 j hj') (xY hp j hj')
 simpa [hv] using this
theorem dQ (v:Value)(j:Nat):v.cells.toList.getD j undef=v.cells.getD j undef:=by
 simp
theorem zHU {ps:PS}{o:Oper}{t:TypeId}{ad vl:Operand}(hop:o.op=.store t ad vl)(hd:∀ t,o.dst=some t→t<N){K:PS→Prop}{Km:Act→World→Prop}{Q:Exit→Act→World→Prop}(h:Sim w0 S0 K0 N (zB ps.tmps) ps.objs a w S β)
  {n off:Nat} {cs:List PV} (ha:ev (zB ps.tmps) ad=.ptr n off) (ho:yG ps.objs n=some (.box cs)) (hl:(yJ (ev (zB ps.tmps) vl)).length=(ty t).cells) (hle:off+(ty t).cells≤cs.length) (h0:0<(ty t).cells) (hok:yT b9 (yJ (ev (zB ps.tmps) vl))=true)
  (hs:K (put ⟨ps.tmps,setO ps.objs n (.box (w6 cs off (yJ (ev (zB ps.tmps) vl))))⟩ o.dst .any))
  (hk:∀ ps' a' w' S' β',K ps'→Sim w0 S0 K0 N (zB ps'.tmps) ps'.objs a' w' S' β'→Km a' w'):o.wp Pg a w Km Q:=by
 have hmem:=xK ho
 have hra:=h.eval ad
 have hrv:=h.eval vl
 rw[ha] at hra
 obtain⟨b,hβ,hv⟩:=kP hra
 obtain⟨b',vs,T,hβ',hb,hsz,hrr⟩:=zBW h ho
 rw[hβ] at hβ'
 cases hβ'
 have hno:(ty t).isNo=false:=by cases hty:ty t <;> simp [hty,Ty.cells,Ty.isNo] at h0 ⊢
 have hp:=pK hrv hok
 obtain⟨c1,c2⟩:=kJ hrv hp
 have hfit:off+(a.eval vl).cells.toList.length≤vs.size:=by simp;omega
 have hrun:=nN (w:=w) (b:=b) (o:=off) hno hb (by rw[c1,hl]) (by rw[c1];omega) (zAN hrv hok)
 have hw:=zBF hfit
 have hnS:=(h.obj.un n _ b hmem hβ).1
 have he:=fW (w:=w) (fun i hS=>absurd (hnS i hS) id) hb hw
 have hsim:=h.write (o:=.box (w6 cs off (yJ (ev (zB ps.tmps) vl)))) hmem (fun i=>id) hβ hb hw ⟨b,_,T,hβ,setRow_heap w b vs _ T _ hb,by rw[hw,hsz,v8 _ _ _ (by omega)],fun j hj=>by
  rw[v8 _ _ _ (by omega)] at hj
  rw[lJ hfit,fD _ _ _ (by omega)]
  have e:(a.eval vl).cells.toList.length=(yJ (ev (zB ps.tmps) vl)).length:=by simpa using c1
  rw[e]
  by_cases hr:off≤j∧j<off+(yJ (ev (zB ps.tmps) vl)).length
  ·rw[if_pos hr,if_pos hr,dQ]
   exact (c2 (j - off) (by omega)).evo he (fun _ _ h=>h)
  ·rw[if_neg hr,if_neg hr]
   exact (hrr j hj).evo he (fun _ _ h=>h)⟩
 refine zC8 (w':=w.setRow b (wr vs off (a.eval vl).cells.toList)) (by simp only[execOp,hop,hv,Sem.run_bind,hrun,Result.andThen_ok,Sem.run_pure]) ?_
 exact hk _ _ _ _ _ hs (kA (ps:=⟨ps.tmps,_⟩) hsim o.dst hd (xS _))
theorem zCI (l:List (List D))(i k:Nat)(x:List D)(hi:i<l.length):(l.set i x).getD k []=if i=k then x else l.getD k []:=by
 simp only[List.getD_eq_getElem?_getD,List.getElem?_set]
 by_cases h:i=k
 ·subst h;simp [hi]
 ·simp [h]
theorem zHV {ps:PS}{o:Oper}{t:TypeId}{ad vl:Operand}(hop:o.op=.store t ad vl)(hd:∀ t,o.dst=some t→t<N){K:PS→Prop}{Km:Act→World→Prop}{Q:Exit→Act→World→Prop}(h:Sim w0 S0 K0 N (zB ps.tmps) ps.objs a w S β)
  {n s off:Nat} {i:Unit→Nat} {els:Unit→List (List D)} (ha:ev (zB ps.tmps) ad=.aptr n s i off) (ho:yG ps.objs n=some (.arr s els)) (hl:(yJ (ev (zB ps.tmps) vl)).length=(ty t).cells) (hle:off+(ty t).cells≤s) (h0:0<(ty t).cells) (hok:yT t8 (yJ (ev (zB ps.tmps) vl))=true)
  (hs:ElOk s els i (fun c=>K (put ⟨ps.tmps,setO ps.objs n (.arr s (fun _=>(els ()).set (i ()) (yW (w6 c off (yJ (ev (zB ps.tmps) vl))))))⟩ o.dst .any)))
  (hk:∀ ps' a' w' S' β',K ps'→Sim w0 S0 K0 N (zB ps'.tmps) ps'.objs a' w' S' β'→Km a' w'):o.wp Pg a w Km Q:=by
 have hmem:=xK ho
 have hra:=h.eval ad
 have hrv:=h.eval vl
 rw[ha] at hra
 obtain⟨c,hcf,hcl,hck,hK⟩:=hs.h
 have hlt:i ()<(els ()).length:=by
  rcases Nat.lt_or_ge (i ()) (els ()).length with h' | h'
  ·exact h'
  ·rw[List.getElem?_eq_none h'] at hck;cases hck
 obtain⟨b,hβ,hv⟩:=j2 hra
 rcases h.obj.at_ n _ hmem with ⟨hn,he0⟩ | ⟨b',vs,T,hβ',hb,hsz,hwid,hrr⟩
 ·rw[he0] at hlt;simp at hlt
 rw[hβ] at hβ'
 cases hβ'
 have hno:(ty t).isNo=false:=by cases hty:ty t <;> simp [hty,Ty.cells,Ty.isNo] at h0 ⊢
 have hokC:=zL2 hok
 have hp:=pK hrv hokC
 obtain⟨c1,c2⟩:=kJ hrv hp
 have hin:i () * s+s≤(els ()).length * s:=by
  calc i () * s+s=(i ()+1) * s:=by rw[Nat.add_mul];omega
   _≤_:=Nat.mul_le_mul_right _ hlt
 have hfit:i () * s+off+(a.eval vl).cells.toList.length≤vs.size:=by simp;omega
 have hrun:=nN (w:=w) (b:=b) (o:=i () * s+off) hno hb (by rw[c1,hl]) (by rw[c1];omega) (zAN hrv hokC)
 have hw:=zBF hfit
 have hnS:=(h.obj.un n _ b hmem hβ).1
 have he:=fW (w:=w) (fun i hS=>absurd (hnS i hS) id) hb hw
 have hg:(els ()).getD (i ()) []=yW c:=by rw[List.getD_eq_getElem?_getD,hck];rfl
 have hsim:=h.write (o:=.arr s (fun _=>(els ()).set (i ()) (yW (w6 c off (yJ (ev (zB ps.tmps) vl)))))) hmem (fun i=>id) hβ hb hw (.inr ⟨b,_,T,hβ,setRow_heap w b vs _ T _ hb,by rw[hw];simpa using hsz,fun e hm=>by
  rcases List.mem_or_eq_of_mem_set hm with hm | rfl
  ·exact hwid e hm
  ·rw[v7,v8 _ _ _ (by omega),hcl],fun k j hkl hj=>by
  simp only[List.length_set] at hkl
  rw[lJ hfit,zCI _ _ _ _ hlt]
  have e:(a.eval vl).cells.toList.length=(yJ (ev (zB ps.tmps) vl)).length:=by simpa using c1
  rw[e]
  by_cases hki:i ()=k
  ·subst hki
   rw[if_pos rfl,kE,fD _ _ _ (by omega)]
   by_cases hr:off≤j∧j<off+(yJ (ev (zB ps.tmps) vl)).length
   ·rw[if_pos (by omega),if_pos hr,dQ]
    have e2:i () * s+j - (i () * s+off)=j - off:=by omega
    rw[e2]
    have hj2:j - off<(yJ (ev (zB ps.tmps) vl)).length:=by omega
    exact⟨(tC (c2 (j - off) hj2) (nE (xY hok _ hj2))).evo he.same (fun _ _ h=>h),bS (c2 (j - off) hj2) (zC6 (xY hok _ hj2))⟩
   ·rw[if_neg (by omega),if_neg hr]
    have:=hrr (i ()) j hlt hj
    rw[hg,kE] at this
    exact⟨this.1.evo he.same (fun _ _ h=>h),this.2⟩
  ·rw[if_neg hki]
   have hout:¬ (i () * s+off≤k * s+j∧k * s+j<i () * s+off+(yJ (ev (zB ps.tmps) vl)).length):=by
    rcases Nat.lt_or_gt_of_ne hki with hlt' | hgt
    ·have:(i ()+1) * s≤k * s:=Nat.mul_le_mul_right _ hlt'
     rw[Nat.add_mul] at this
     omega
    ·have:(k+1) * s≤i () * s:=Nat.mul_le_mul_right _ hgt
     rw[Nat.add_mul] at this
     omega
   rw[if_neg hout]
   have:=hrr k j hkl hj
   exact⟨this.1.evo he.same (fun _ _ h=>h),this.2⟩⟩)
 refine zC8 (w':=w.setRow b (wr vs (i () * s+off) (a.eval vl).cells.toList)) (by simp only[execOp,hop,hv,Sem.run_bind,hrun,Result.andThen_ok,Sem.run_pure]) ?_
 exact hk _ _ _ _ _ hK (kA (ps:=⟨ps.tmps,_⟩) hsim o.dst hd (xS _))
theorem eS (z:Array Value)(n j:Nat)(hj:j<n)(hz:0<z.size):(madeCells z n).getD j undef=z.getD (j % z.size) undef:=by
 have:j % z.size<z.size:=Nat.mod_lt _ hz
 simp [madeCells,hj,getElem!_def,Array.getElem?_eq_getElem this]
theorem zFB {ps:PS}{o:Oper}{t:TypeId}{l c:Operand}{d:Nat}(hop:o.op=.makeSlice t l c)(hod:o.dst=some d)(hd:d<N){K:PS→Prop}{Km:Act→World→Prop}{Q:Exit→Act→World→Prop}(h:Sim w0 S0 K0 N (zB ps.tmps) ps.objs a w S β)
  {n b:Nat} {z:List PV} (ht:ty t=.sli n b z) {x y:Unit→Int} (hl:ev (zB ps.tmps) l=.int .i64 x) (hc:ev (zB ps.tmps) c=.int .i64 y) (hR:Room y b) (hM:MkOk x y) (hf:yR d ps=true) (hz:yT t8 z=true)
  (hs:K ⟨uG ps.tmps d (.osl d n (fun _=>0) (fun _=>(x ()).toNat)),ps.objs++[(d,.arr n (fun _=>List.replicate (x ()).toNat (yW z)))]⟩)
  (hk:∀ ps' a' w' S' β',K ps'→Sim w0 S0 K0 N (zB ps'.tmps) ps'.objs a' w' S' β'→Km a' w'):o.wp Pg a w Km Q:=by
 obtain⟨inf,el,j,zv,h1,h2,h3,h4,h5,h6,h7,h8,h9,h10,h11,h12⟩:=qM ht
 have hrl:=h.eval l;have hrc:=h.eval c
 rw[hl] at hrl;rw[hc] at hrc
 have hlv:=vE hrl;have hcv:=vE hrc
 have hx0:=hM.lo;have hxy:=hM.hi;have hy0:=hR.lo;have hyb:=hR.hi
 have hyle:y ()≤y () * (b:Int):=by
  have:y () * 1≤y () * (b:Int):=Int.mul_le_mul_of_nonneg_left (by omega) hy0
  omega
 have hbytes:(j.bytes:Int) * y ()≤281474976710656:=by rw[h8,Int.mul_comm];omega
 have hrun:=run_make (P:=Pg) w t el j zv h4 h5 h6 .i64 .i64 (x ()) (y ()) hx0 hxy hbytes (by omega)
 have hsz:(madeCells zv.cells ((y ()).toNat * j.size)).size=(y ()).toNat * n:=by rw[size_madeCells,h7]
 have ld:=gY (w:=w) h.ld.bnd (.cells (madeCells zv.cells ((y ()).toNat * j.size)) el)
 have hzl:z.length=n:=by rw[h11];simp [h9]
 have hz':=uO (w:=w) (S:=S) (β:=β) zv.cells
 rw[←h11] at hz'
 have hxn:(x ()).toNat≤(y ()).toNat:=by omega
 have hn:=h.newObj (w':=w.alloc (.cells (madeCells zv.cells ((y ()).toNat * j.size)) el)) (b:=w.heap.size) (o:=.arr n (fun _=>List.replicate (x ()).toNat (yW z))) hf ld (Nat.le_refl _) (by simp)
  (.inr ⟨w.heap.size,_,el,y6,heap_alloc_new w _,by rw[hsz];simpa using Nat.mul_le_mul_right n hxn,fun e he=>by
   rw[List.eq_of_mem_replicate he,v7,hzl],fun i k hi hk'=>by
   simp only[List.length_replicate] at hi
   have hlt:i * n+k<(y ()).toNat * n:=by
    calc i * n+k<i * n+n:=by omega
     _=(i+1) * n:=by rw[Nat.add_mul];omega
     _≤_:=Nat.mul_le_mul_right _ (by omega)
   have hmod:(i * n+k) % zv.cells.size=k:=by rw[h9,Nat.add_comm,Nat.add_mul_mod_self_right,Nat.mod_eq_of_lt hk']
   have hg:(madeCells zv.cells ((y ()).toNat * j.size)).getD (i * n+k) undef=zv.cells.getD k undef:=by
    rw[eS _ _ _ (by rw[h7];exact hlt) (by omega),hmod]
   have hrep:(List.replicate (x ()).toNat (yW z)).getD i []=yW z:=by
    simp [hi]
   rw[hrep,kE]
   have hr:=hz'.2 k (by omega)
   have hck:=xY hz k (by omega)
   refine⟨?_,?_⟩
   ·rw[hg];exact (tC hr (nE hck)).evo (ld.evo h.ld.bnd).same (ld.subs h.ld.bnd)
   ·rw[hg];exact bS hr (zC6 hck)⟩)
 refine aB (w':=w.alloc (.cells (madeCells zv.cells ((y ()).toNat * j.size)) el)) (v:=.slice (some ⟨w.heap.size,0,none⟩) (x ()).toNat (y ()).toNat) ?_ ?_
 ·simp only[execOp,hop,hlv,hcv,Sem.run_bind,hrun,Result.andThen_ok,Sem.run_pure]
 ·rw[hod]
  have hv:Rep (w.alloc (.cells (madeCells zv.cells ((y ()).toNat * j.size)) el)) S (gF β d (some w.heap.size)) (.slice (some ⟨w.heap.size,0,none⟩) (x ()).toNat (y ()).toNat) (.osl d n (fun _=>0) (fun _=>(x ()).toNat)):=by
   have:=Rep.osl (w:=w.alloc (.cells (madeCells zv.cells ((y ()).toNat * j.size)) el)) (S:=S) (β:=gF β d (some w.heap.size)) (n:=d) (s:=n) (cap:=(y ()).toNat) (b:=w.heap.size) (o:=fun _=>0) (len:=fun _=>(x ()).toNat) y6 hxn (heap_alloc_new w _) (by rw[hsz,Nat.zero_add];exact Nat.le_refl _)
   rwa [Nat.zero_mul] at this
  exact hk _ _ _ _ _ hs (hn.putT' d hd hv)
end
end Go.Proofs.YtgcpehdkdnkgeaaGreat
