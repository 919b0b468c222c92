/- A part of the proof: PmK. -/
import Derived.Test.YtfainocfaddbdaaGreatT07
set_option linter.all false
namespace Go.Proofs.YtfainocfaddbdaaGreat
open Go
section
variable {w0:World} {S0:Nat->Nat->Prop} {K0:Nat->Prop} {N:Cx} {τ:Nat->PV} {objs:List (Nat×Obj')} {a:Act} {w w':World} {S S':Nat->Nat->Prop} {β:Bm}
theorem x5 {ps:PS}(h:Sim w0 S0 K0 N (zB ps.tmps) ps.objs a w S β)(d:Option Nat)(hd:∀ t,d=some t->t<N){v:Value}{x:PV}(hv:Rep w S β v x):Sim w0 S0 K0 N (zB (put ps d x).tmps) (put ps d x).objs (a.put d v) w S β:=by rw[yY,vQ];exact h.put d hd hv
theorem Sim.putT' {ps:PS}(h:Sim w0 S0 K0 N (zB ps.tmps) objs a w S β)(d:Nat)(hd:d<N){v:Value}{x:PV}(hv:Rep w S β v x):Sim w0 S0 K0 N (zB (w9 ps.tmps d x)) objs (a.put (some d) v) w S β:=by
 have:=h.put (some d) (fun t e=>by cases e;exact hd) hv;have e:upd (zB ps.tmps) (some d) x=zB (w9 ps.tmps d x):=by funext t;simp[upd,jV]
 rwa [e] at this
theorem Sim.newObj {ps:PS}(h:Sim w0 S0 K0 N (zB ps.tmps) ps.objs a w S β){n b:Nat}{o:Obj'}(hf:yE n ps=true)(l:Leads w S vD w' S)(hb:w.heap.size<=b)(hb':b<w'.heap.size) (hat:ObjAt w' S (vG β n (some b)) n o) (hr:∀ i,¬x9 o i:=by intro _ hi;exact hi):Sim w0 S0 K0 N (zB ps.tmps) (ps.objs++[(n,o)]) a w' S (vG β n (some b)):=by
 simp only[yE,Bool.and_eq_true] at hf;have hmem:∀ {m x},(m,x)∈ps.objs++[(n,o)]->((m,x)∈ps.objs/\m≠n)\/(m=n/\x=o):=by intro m x hm;simp only[List.mem_append,List.mem_singleton] at hm;rcases hm with hm|hm;{exact .inl ⟨hm,(yA hf.2 hm).1⟩};{cases hm;exact .inr ⟨rfl,rfl⟩}
 have hg:=h.go l;refine⟨h.dfr,h.sz,hg.ld,fun t=>(hg.tmp t).upd (xZ hf.1 t),⟨?_,?_,?_,?_⟩,?_,?_⟩;{rw[List.map_append,List.nodup_append];refine⟨h.obj.nd,by simp,?_⟩;intro x hx y hy e;simp at hy;subst hy e;obtain⟨⟨m,o⟩,h1,rfl⟩:=List.mem_map.1 hx;exact (yA hf.2 h1).1 rfl};{intro m x hm;rcases hmem hm with⟨h1,h2⟩|⟨rfl,rfl⟩;{exact (hg.obj.at_ m x h1).upd h2 (yA hf.2 h1).2};{exact hat}};{intro m x c hm hβ;rcases hmem hm with⟨h1,h2⟩|⟨rfl,rfl⟩;{exact hg.obj.un m x c h1 (x4 h2 hβ)};{have hβ:=yR hr hβ;rw[yI] at hβ;cases hβ;exact⟨fun i hS=>by have:=h.ld.bnd b i hS;omega,hb'⟩}};{intro m x m' x' c hm hm' hβ hβ';rcases hmem hm with⟨h1,h2⟩|⟨rfl,rfl⟩;{rcases hmem hm' with⟨h3,h4⟩|⟨rfl,rfl⟩;{exact hg.obj.inj _ _ _ _ c h1 h3 (x4 h2 hβ) (x4 h4 hβ')};{have hβ':=yR hr hβ';rw[yI] at hβ';cases hβ';have:=(h.obj.un m x b h1 (x4 h2 hβ)).2;omega}};{rcases hmem hm' with⟨h3,h4⟩|⟨rfl,rfl⟩;{have hβ:=yR hr hβ;rw[yI] at hβ;cases hβ;have:=(h.obj.un m' x' b h3 (x4 h4 hβ')).2;omega};{rfl}}};{intro m x c hm hβ;rcases hmem hm with⟨h1,h2⟩|⟨rfl,rfl⟩;{exact h.own m x c h1 (x4 h2 hβ)};{have hβ:=yR hr hβ;rw[yI] at hβ;cases hβ;have:=h.ld.size;exact .inl (by omega)}};{intro m x hm hb2;rcases hmem hm with⟨h1,h2⟩|⟨rfl,rfl⟩;{rw[xU h2];exact h.keep m x h1 hb2};{have:=wG hf.2;omega}}
theorem zCR {lg:Bool}{n s:Nat}{els:Unit->List (List D)}(h:RowAt w S β n s els):ObjAt w S β n (kJ lg s els):=by cases lg <;> exact h
theorem l7 (lg:Bool)(s:Nat)(els:Unit->List (List D))(i:Nat):¬x9 (kJ lg s els) i:=by cases lg <;> (intro hi;exact hi)
theorem zLB (lg:Bool)(s:Nat)(els:Unit->List (List D)):eW (kJ lg s els)=some (s,els):=by cases lg <;> rfl
theorem Sim.newNil {ps:PS}(h:Sim w0 S0 K0 N (zB ps.tmps) ps.objs a w S β){lg:Bool}{n s:Nat}{els:Unit->List (List D)}(hf:yE n ps=true)(he:els ()=[]):Sim w0 S0 K0 N (zB ps.tmps) (ps.objs++[(n,kJ lg s els)]) a w S (vG β n none):=h.freshO hf (fun β' h=>zCR (.inl ⟨h,he⟩)) (l7 lg s els)
theorem zE8 {t:Nat}(h:(ty t).isNo=false):∃ i zv,Pg.info? t=some i/\i.zero=some zv/\RepL w S β zv.cells (ty t).zero:=by
 cases ht:ty t with
 |no=>simp[ht,Ty.isNo] at h| sc z =>
  obtain⟨i,d,zv,h1,h2,h3,h4,h5,h6,h7,_⟩:=oJ ht;refine⟨i,zv,h1,h4,?_⟩;rw[h6,h7];exact uK #[zv]
 |st n fs z =>
  obtain⟨i,fields,zs,h1,h2,h3,h4,h5,h6,h7,_⟩:=n6 ht;refine⟨i,_,h1,h3,?_⟩;rw[h7];exact uK zs
 |arr len n ag z =>
  obtain⟨i,e,zs,h1,h2,h3,h4,h5,h6,h7,h8,h8',h8'',h9⟩:=sH ht;refine⟨i,_,h1,h3,?_⟩;rw[h9];exact uK zs
 |sli n b z =>
  obtain⟨i,e,j,zv,h1,h2,h3,_⟩:=w5 ht;exact⟨i,_,h1,h3,uK #[.slice none 0 0]⟩
theorem pB {o:Oper}{d:Nat}(hod:o.dst=some d)(hd:d<N){cs:List PV}{ps:PS}{K:PS->Prop}{Km:Act->World->Prop}{Q:Exit->Act->World->Prop}(h:Sim w0 S0 K0 N (zB ps.tmps) ps.objs a w S β)(hs:iA d cs ps K) {cells:Array Value} {T:TypeId} (hr:RepL w S β cells cs) (hrun:(execOp a.eval o).run Pg w=.ok (.value (.pointer (some ⟨w.heap.size,0,none⟩))) (w.alloc (.cells cells T))) (hk:∀ ps' a' w' S' β',K ps'->Sim w0 S0 K0 N (zB ps'.tmps) ps'.objs a' w' S' β'->Km a' w') (hcs:xT d cs=true):o.wp Pg a w Km Q:=by
 unfold iA at hs;cases hf:yE d ps with
 |false=>simp[hf] at hs| true =>
  simp only[hf,cond_true] at hs;have l:=vB (w:=w) h.ld.bnd (.cells cells T);have hn:=h.newObj (w':=w.alloc (.cells cells T)) (b:=w.heap.size) (o:=.box cs) hf l (Nat.le_refl _) (by simp) ⟨w.heap.size,cells,T,yI,heap_alloc_new w _,hr.1,fun j hj =>
   ((hr.2 j hj).evo (l.evo h.ld.bnd) (l.subs h.ld.bnd)).upd (y6 rfl hcs j)⟩
  refine uJ hrun ?_;rw[hod];exact hk _ _ _ _ _ hs (hn.putT' d hd (.ptr yI))
def wr (cur:Array Value) (pos:Nat) (news:List Value):Array Value:=(cur.toList.take pos++news++cur.toList.drop (pos+news.length)).toArray
theorem wF {cur:Array Value}{pos:Nat}{news:List Value}(h:pos+news.length<=cur.size):(wr cur pos news).size=cur.size:=by simp[wr];omega
theorem vX {cur:Array Value}{pos:Nat}{news:List Value}(h:pos+news.length<=cur.size)(j:Nat):(wr cur pos news).getD j undef=if pos<=j/\j<pos+news.length then news.getD (j-pos) undef else cur.getD j undef:=by
 have hl:(cur.toList.take pos).length=pos:=by simp;omega
 simp only[wr,Array.getD_eq_getD_getElem?,List.getElem?_toArray,List.getD_eq_getElem?_getD];congr 1;by_cases h1:j<pos;{rw[if_neg (by omega),List.append_assoc,List.getElem?_append_left (by omega),List.getElem?_take_of_lt h1];simp}
 ·by_cases h2:j<pos+news.length;{rw[if_pos (by omega),List.append_assoc,List.getElem?_append_right (by omega),hl,List.getElem?_append_left (by omega)]}
  ·(rw[if_neg (by omega),List.getElem?_append_right (by simp;omega),List.getElem?_drop];have:pos+news.length+(j-(List.take pos cur.toList++news).length)=j:=by simp;omega);rw[this]
   simp
theorem uP {b:Nat}{vs vs':Array Value}{T:TypeId}(hS:∀ i,S b i->vs'[i]?=vs[i]?)(hw:w.heap[b]?=some (.cells vs T (0,0)))(hsz:vs'.size=vs.size):Evo S w (w.setRow b vs') where
 same c i hc:=by by_cases e:c=b;{subst e;simp only[World.cell?,setRow_heap w c vs vs' T (0,0) hw,hw];exact hS i hc};{exact jQ (setRow_other w b c vs' e) i}
 shape c us U hc:=by by_cases e:c=b;{subst e;rw[hw] at hc;cases hc;exact⟨vs',setRow_heap w c vs vs' T (0,0) hw,hsz⟩};{exact⟨us,by rw[setRow_other w b c vs' e];exact hc,rfl⟩}
theorem RowAt.evo {n s:Nat}{els:Unit->List (List D)}(h:RowAt w S β n s els)(he:Evo S w w')(hb:∀ b,β n=some b->w'.heap[b]?=w.heap[b]?):RowAt w' S β n s els:=by rcases h with h|⟨b,vs,T,h1,h2,h3,h4,h5⟩;{exact .inl h};{exact .inr ⟨b,vs,T,h1,(hb b h1).trans h2,h3,h4,fun i j hi hj=>⟨(h5 i j hi hj).1.evo he.same (fun _ _ h=>h),(h5 i j hi hj).2⟩⟩}
theorem RowIn.evo {ob:Option Nat}{v:Value}{s:Nat}{els:List (List D)}(h:RowIn w S ob v s els)(he:Evo S w w')(hb:∀ b,ob=some b->w'.heap[b]?=w.heap[b]?):RowIn w' S ob v s els:=by rcases h with h|⟨b,cap,us,T,h1,h2,h3,h4,h5,h6,h7⟩;{exact .inl h};{exact .inr ⟨b,cap,us,T,h1,h2,h3,(hb b h1).trans h4,h5,h6,fun i j hi hj=>⟨(h7 i j hi hj).1.evo he.same (fun _ _ h=>h),(h7 i j hi hj).2⟩⟩}
theorem ObjAt.evo {n:Nat}{o:Obj'}(h:ObjAt w S β n o)(he:Evo S w w')(hbo:∀ b,Own β n o b->w'.heap[b]?=w.heap[b]?):ObjAt w' S β n o:=by
 have hb:∀ b,β n=some b->w'.heap[b]?=w.heap[b]?:=fun b h=>hbo b (.inl h);cases o with
 |box cs =>
  obtain⟨b,vs,T,h1,h2,h3,h4⟩:=h;exact⟨b,vs,T,h1,(hb b h1).trans h2,h3,fun j hj=>(h4 j hj).evo he (fun _ _ h=>h)⟩
 |arr s els=>exact RowAt.evo h he hb| log s els=>exact RowAt.evo h he hb| lent s els=>exact⟨RowAt.evo h.1 he hb,h.2⟩| mat s rows hs =>
  obtain⟨hp,h5,h6⟩:=h;refine⟨?_,h5,h6⟩;rcases hp with hp|⟨b,vs,T,h1,h2,h3,h4,h7⟩;{exact .inl hp};{exact .inr ⟨b,vs,T,h1,(hb b h1).trans h2,h3,fun v k hk=>⟨(h4 v k hk).1,(h4 v k hk).2.evo he (fun _ _ h=>h)⟩,fun i hi=>(h7 i hi).evo he fun b hb'=>hbo b (.inr ⟨i,hi,hb'⟩)⟩}
theorem Sim.writeG (h:Sim w0 S0 K0 N τ objs a w S β){n b:Nat}{o0 o:Obj'}{vs vs':Array Value}{T:TypeId}(hm:(n,o0)∈objs)(hnp:∀ i,¬uZ o0 i)(hβ:β n=some b)(hw:w.heap[b]?=some (.cells vs T (0,0)))(hsz:vs'.size=vs.size) (hat:ObjAt (w.setRow b vs') S β n o) (hown:∀ c,Own β n o c->Own β n o0 c):Sim w0 S0 K0 N τ (Go.Proofs.YtfainocfaddbdaaGreat.setO objs n o) a (w.setRow b vs') S β:=by
 obtain⟨hnS,hlt⟩:=h.obj.un n o0 b hm (.inl hβ);have he:=uP (w:=w) (vs':=vs') (fun i hS=>absurd (hnS i hS) (hnp i)) hw hsz;have hn:n∈objs.map Prod.fst:=List.mem_map.2 ⟨_,hm,rfl⟩;have key0:∀ {m x},(m,x)∈Go.Proofs.YtfainocfaddbdaaGreat.setO objs n o->∃ x',(m,x')∈objs:=by intro m x hx;rcases xK h.obj.nd hn hx with⟨rfl,rfl⟩|⟨_,h2⟩;{exact⟨o0,hm⟩};{exact⟨x,h2⟩}
 have key:∀ {m x c},(m,x)∈Go.Proofs.YtfainocfaddbdaaGreat.setO objs n o->Own β m x c->∃ x',(m,x')∈objs/\Own β m x' c:=by intro m x c hx hc;rcases xK h.obj.nd hn hx with⟨rfl,rfl⟩|⟨_,h2⟩;{exact⟨o0,hm,hown c hc⟩};{exact⟨x,h2,hc⟩}
 refine⟨h.dfr,h.sz,?_,fun t=>(h.tmp t).evo he (fun _ _ h=>h),⟨by rw[wU hn];exact h.obj.nd,?_,?_,?_⟩,?_,?_⟩;{refine⟨by simpa using h.ld.size,h.ld.os,h.ld.tape,h.ld.output,fun c hc hk=>?_,fun c us U hc=>?_,fun c i hS=>by simpa using h.ld.bnd c i hS,h.ld.sub,h.ld.old⟩;{rw[setRow_other w b c vs' ?_];{exact h.ld.same c hc hk};{rintro rfl;rcases h.own n o0 c hm (.inl hβ) with h'|h';{omega};{exact hk h'}}};{obtain⟨us',e1,e2⟩:=h.ld.shape c us U hc;obtain⟨us'',e3,e4⟩:=he.shape c us' U e1;exact⟨us'',e3,e4.trans e2⟩}};{intro m x hx;rcases xK h.obj.nd hn hx with⟨rfl,rfl⟩|⟨h1,h2⟩;{exact hat};{refine (h.obj.at_ m x h2).evo he fun c hc=>setRow_other w b c vs' ?_;rintro rfl;exact h1 (h.obj.inj _ _ _ _ c h2 hm hc (.inl hβ))}};{intro m x c hx hc;rcases xK h.obj.nd hn hx with⟨rfl,rfl⟩|⟨_,h2⟩;{have:=h.obj.un _ o0 c hm (hown c hc);exact⟨fun i hS=>absurd (this.1 i hS) (hnp i),by simpa using this.2⟩};{simpa using h.obj.un m x c h2 hc}};{intro m x m' x' c hx hx' hc hc';obtain⟨y,h1,g1⟩:=key hx hc;obtain⟨y',h2,g2⟩:=key hx' hc';exact h.obj.inj _ _ _ _ c h1 h2 g1 g2};{intro m x c hx hc;obtain⟨y,h1,g1⟩:=key hx hc;exact h.own m y c h1 g1};{intro m x hx hb2;obtain⟨y,h1⟩:=key0 hx;exact h.keep m y h1 hb2}
theorem Sim.write (h:Sim w0 S0 K0 N τ objs a w S β){n b:Nat}{o0 o:Obj'}{vs vs':Array Value}{T:TypeId}(hm:(n,o0)∈objs)(hnp:∀ i,¬uZ o0 i)(hβ:β n=some b)(hw:w.heap[b]?=some (.cells vs T (0,0)))(hsz:vs'.size=vs.size) (hat:ObjAt (w.setRow b vs') S β n o) (hr:∀ i,¬x9 o i:=by intro _ hi;exact hi):Sim w0 S0 K0 N τ (Go.Proofs.YtfainocfaddbdaaGreat.setO objs n o) a (w.setRow b vs') S β :=
 h.writeG hm hnp hβ hw hsz hat fun c hc=>.inl (yR hr hc)
theorem bD {t:Nat}(hno:(ty t).isNo=false){b o:Nat}{v:Value}{cur:Array Value}{T:TypeId}(hb:w.heap[b]?=some (.cells cur T (0,0)))(hsz:v.cells.size=(ty t).cells)(hfit:o+v.cells.size<=cur.size) (h1:∀ u∈v.cells.toList,u.oneCell'=true):(Instr.storeAt t (.pointer (some ⟨b,o,none⟩)) v).run Pg w=.ok () (w.setRow b (wr cur o v.cells.toList)):=by
 obtain⟨i,d,hi,hu,hs,ha⟩:=zAV hno;have hst:=run_storeCells_at (P:=Pg) b o T v.cells.toList 0 cur w hb (by simpa using hfit) h1;simp only[Nat.add_zero] at hst;have e:v.cells.size=i.size:=by rw[hsz,hs]
 simp only[Instr.storeAt,Instr.sureAddr,storeVar,Sem.run_bind,Sem.run_pure,Result.andThen_ok,wR hi,e,ne_eq,not_true_eq_false,if_false,hst];rfl
theorem cP {x:PV}{v:Value}(h:Rep w S β v x)(hp:yN cO (yF x)=true):qV x=true:=by
 cases x with
 |agg cs=>rfl| _=>simpa[yF,yN,qV] using hp
theorem zJ7:∀ {l:List PV},yN p6 l=true->yN cO l=true
 |[],_=>rfl| c::l,h=>by simp only[yN,Bool.and_eq_true] at h ⊢;exact⟨eE h.1,zJ7 h.2⟩
theorem tX {x:PV}{v:Value}(h:Rep w S β v x)(hp:yN cO (yF x)=true):∀ u∈v.cells.toList,u.oneCell'=true:=by
 obtain⟨h1,h2⟩:=uY h (cP h hp);intro u hu;obtain⟨j,hj,rfl⟩:=List.getElem_of_mem hu;have hj':j<(yF x).length:=by rw[<-h1];simpa using hj
 have hv:j<v.cells.size:=by simpa using hj
 have:=fF (h2 j hj') (xQ hp j hj');simpa[hv] using this
theorem kW (v:Value)(j:Nat):v.cells.toList.getD j undef=v.cells.getD j undef:=by simp
theorem zGQ {ps:PS}{o:Oper}{t:TypeId}{ad vl:Operand}(hop:o.op=.store t ad vl)(hd:∀ t,o.dst=some t->t<N){K:PS->Prop}{Km:Act->World->Prop}{Q:Exit->Act->World->Prop}(h:Sim w0 S0 K0 N (zB ps.tmps) ps.objs a w S β) {n off:Nat} {cs:List PV} (ha:ev (zB ps.tmps) ad=.ptr n off) (ho:z7 ps.objs n=some (.box cs)) (hl:(yF (ev (zB ps.tmps) vl)).length=(ty t).cells) (hle:off+(ty t).cells<=cs.length) (h0:0<(ty t).cells) (hok:yN cO (yF (ev (zB ps.tmps) vl))=true) (hs:K (put ⟨ps.tmps,setO ps.objs n (.box (wZ cs off (yF (ev (zB ps.tmps) vl))))⟩ o.dst .any)) (hk:∀ ps' a' w' S' β',K ps'->Sim w0 S0 K0 N (zB ps'.tmps) ps'.objs a' w' S' β'->Km a' w'):o.wp Pg a w Km Q:=by
 have hmem:=yW ho;have hra:=h.eval ad;have hrv:=h.eval vl;rw[ha] at hra;obtain⟨b,hβ,hv⟩:=uF hra;obtain⟨b',vs,T,hβ',hb,hsz,hrr⟩:=zA5 h ho;rw[hβ] at hβ';cases hβ';have hno:(ty t).isNo=false:=by cases hty:ty t <;> simp[hty,Ty.cells,Ty.isNo] at h0 ⊢
 have hp:=cP hrv hok;obtain⟨c1,c2⟩:=uY hrv hp;have hfit:off+(a.eval vl).cells.toList.length<=vs.size:=by simp;omega
 have hrun:=bD (w:=w) (b:=b) (o:=off) hno hb (by rw[c1,hl]) (by rw[c1];omega) (tX hrv hok);have hw:=wF hfit;have hnS:=(h.obj.un n _ b hmem (.inl hβ)).1;have he:=uP (w:=w) (fun i hS=>absurd (hnS i hS) id) hb hw;have hsim:=h.write (o:=.box (wZ cs off (yF (ev (zB ps.tmps) vl)))) hmem (fun i=>id) hβ hb hw ⟨b,_,T,hβ,setRow_heap w b vs _ T _ hb,by rw[hw,hsz,vY _ _ _ (by omega)],fun j hj=>by
  (rw[vY _ _ _ (by omega)] at hj;rw[vX hfit,gS _ _ _ (by omega)];have e:(a.eval vl).cells.toList.length=(yF (ev (zB ps.tmps) vl)).length:=by simpa using c1);rw[e]
  by_cases hr:off<=j/\j<off+(yF (ev (zB ps.tmps) vl)).length;{rw[if_pos hr,if_pos hr,kW];exact (c2 (j-off) (by omega)).evo he (fun _ _ h=>h)}
  ·rw[if_neg hr,if_neg hr];exact (hrr j hj).evo he (fun _ _ h=>h)⟩
 refine nX (w':=w.setRow b (wr vs off (a.eval vl).cells.toList)) (by simp only[execOp,hop,hv,Sem.run_bind,hrun,Result.andThen_ok,Sem.run_pure]) ?_;exact hk _ _ _ _ _ hs (x5 (ps:=⟨ps.tmps,_⟩) hsim o.dst hd (xL _))
theorem zBR (l:List (List D))(i k:Nat)(x:List D)(hi:i<l.length):(l.set i x).getD k []=if i=k then x else l.getD k []:=by simp only[List.getD_eq_getElem?_getD,List.getElem?_set];by_cases h:i=k;{subst h;simp[hi]};{simp[h]}
theorem zGR {ps:PS}{o:Oper}{t:TypeId}{ad vl:Operand}(hop:o.op=.store t ad vl)(hd:∀ t,o.dst=some t->t<N){K:PS->Prop}{Km:Act->World->Prop}{Q:Exit->Act->World->Prop}(h:Sim w0 S0 K0 N (zB ps.tmps) ps.objs a w S β) {n s off:Nat} {i:Unit->Nat} {els:Unit->List (List D)} (ha:ev (zB ps.tmps) ad=.aptr n s i off) (ho:z7 ps.objs n=some (.arr s els)) (hl:(yF (ev (zB ps.tmps) vl)).length=(ty t).cells) (hle:off+(ty t).cells<=s) (h0:0<(ty t).cells) (hok:yN p6 (yF (ev (zB ps.tmps) vl))=true) (hs:ElOk s els i (fun c=>K (put ⟨ps.tmps,setO ps.objs n (.arr s (fun _=>(els ()).set (i ()) (xM (wZ c off (yF (ev (zB ps.tmps) vl))))))⟩ o.dst .any))) (hk:∀ ps' a' w' S' β',K ps'->Sim w0 S0 K0 N (zB ps'.tmps) ps'.objs a' w' S' β'->Km a' w'):o.wp Pg a w Km Q:=by
 have hmem:=yW ho;have hra:=h.eval ad;have hrv:=h.eval vl;rw[ha] at hra;obtain⟨c,hcf,hcl,hck,hK⟩:=hs.h;have hlt:i ()<(els ()).length:=by rcases Nat.lt_or_ge (i ()) (els ()).length with h'|h';{exact h'};{rw[List.getElem?_eq_none h'] at hck;cases hck}
 obtain⟨b,hβ,hv⟩:=qG hra;rcases h.obj.at_ n _ hmem with⟨hn,he0⟩|⟨b',vs,T,hβ',hb,hsz,hwid,hrr⟩;{rw[he0] at hlt;simp at hlt};rw[hβ] at hβ';cases hβ'
 have hno:(ty t).isNo=false:=by cases hty:ty t <;> simp[hty,Ty.cells,Ty.isNo] at h0 ⊢
 have hokC:=zJ7 hok;have hp:=cP hrv hokC;obtain⟨c1,c2⟩:=uY hrv hp;have hin:i ()*s+s<=(els ()).length*s:=by
  calc i ()*s+s=(i ()+1)*s:=by rw[Nat.add_mul];omega
   _<=_:=Nat.mul_le_mul_right _ hlt
 have hfit:i ()*s+off+(a.eval vl).cells.toList.length<=vs.size:=by simp;omega
 have hrun:=bD (w:=w) (b:=b) (o:=i ()*s+off) hno hb (by rw[c1,hl]) (by rw[c1];omega) (tX hrv hokC);have hw:=wF hfit;have hnS:=(h.obj.un n _ b hmem (.inl hβ)).1;have he:=uP (w:=w) (fun i hS=>absurd (hnS i hS) id) hb hw;have hg:(els ()).getD (i ()) []=xM c:=by rw[List.getD_eq_getElem?_getD,hck];rfl
 have hsim:=h.write (o:=.arr s (fun _=>(els ()).set (i ()) (xM (wZ c off (yF (ev (zB ps.tmps) vl)))))) hmem (fun i=>id) hβ hb hw (.inr ⟨b,_,T,hβ,setRow_heap w b vs _ T _ hb,by rw[hw];simpa using hsz,fun e hm=>by
  rcases List.mem_or_eq_of_mem_set hm with hm|rfl;{exact hwid e hm}
  ·rw[vV,vY _ _ _ (by omega),hcl],fun k j hkl hj=>by
  (simp only[List.length_set] at hkl;rw[vX hfit,zBR _ _ _ _ hlt];have e:(a.eval vl).cells.toList.length=(yF (ev (zB ps.tmps) vl)).length:=by simpa using c1);rw[e]
  by_cases hki:i ()=k
  ·subst hki;rw[if_pos rfl,uU,gS _ _ _ (by omega)];by_cases hr:off<=j/\j<off+(yF (ev (zB ps.tmps) vl)).length
   ·(rw[if_pos (by omega),if_pos hr,kW];have e2:i ()*s+j-(i ()*s+off)=j-off:=by omega);rw[e2]
    (have hj2:j-off<(yF (ev (zB ps.tmps) vl)).length:=by omega);exact⟨(bF (c2 (j-off) hj2) (aR (xQ hok _ hj2))).evo he.same (fun _ _ h=>h),fF (c2 (j-off) hj2) (eE (xQ hok _ hj2))⟩
   {rw[if_neg (by omega),if_neg hr];have:=hrr (i ()) j hlt hj;rw[hg,uU] at this;exact⟨this.1.evo he.same (fun _ _ h=>h),this.2⟩}
  ·(rw[if_neg hki];have hout:¬(i ()*s+off<=k*s+j/\k*s+j<i ()*s+off+(yF (ev (zB ps.tmps) vl)).length):=by rcases Nat.lt_or_gt_of_ne hki with hlt'|hgt;{have:(i ()+1)*s<=k*s:=Nat.mul_le_mul_right _ hlt';rw[Nat.add_mul] at this;omega};{have:(k+1)*s<=i ()*s:=Nat.mul_le_mul_right _ hgt;rw[Nat.add_mul] at this;omega});rw[if_neg hout];have:=hrr k j hkl hj;exact⟨this.1.evo he.same (fun _ _ h=>h),this.2⟩⟩)
 refine nX (w':=w.setRow b (wr vs (i ()*s+off) (a.eval vl).cells.toList)) (by simp only[execOp,hop,hv,Sem.run_bind,hrun,Result.andThen_ok,Sem.run_pure]) ?_;exact hk _ _ _ _ _ hK (x5 (ps:=⟨ps.tmps,_⟩) hsim o.dst hd (xL _))
theorem zGP {ps:PS}{o:Oper}{t:TypeId}{ad vl:Operand}(hop:o.op=.store t ad vl)(hd:∀ t,o.dst=some t->t<N){K:PS->Prop}{Km:Act->World->Prop}{Q:Exit->Act->World->Prop}(h:Sim w0 S0 K0 N (zB ps.tmps) ps.objs a w S β) {n s:Nat} {i:Unit->Nat} {rows:Unit->List (List (List D))} {hs0:List (PV×(Unit->Nat))} (ha:ev (zB ps.tmps) ad=.aptr n 1 i 0) (ho:z7 ps.objs n=some (.mat s rows hs0)) (hl:(ty t).cells=1) (hok:oneC (ev (zB ps.tmps) vl)=true) (hs:StoH hs0 i (ev (zB ps.tmps) vl) (fun hs'=>K (put ⟨ps.tmps,setO ps.objs n (.mat s rows hs')⟩ o.dst .any))) (hk:∀ ps' a' w' S' β',K ps'->Sim w0 S0 K0 N (zB ps'.tmps) ps'.objs a' w' S' β'->Km a' w'):o.wp Pg a w Km Q:=by
 have hmem:=yW ho;have hra:=h.eval ad;have hrv:=h.eval vl;rw[ha] at hra;obtain⟨hs1,v0,k,hs2,rfl,hki,hoth,hK⟩:=hs.h;obtain⟨b,hβ,hv⟩:=qG hra;have hM:MatAt w S β n s rows (hs1++(v0,k)::hs2):=h.obj.at_ n _ hmem;rcases hM.pl with⟨_,_,h2⟩|⟨b',vs,T,hβ',hb,hsz,hhs,hrs⟩;{simp at h2};rw[hβ] at hβ';cases hβ'
 have hlt:i ()<(rows ()).length:=by rw[<-hki];exact (hhs v0 k (List.mem_append_right _ List.mem_cons_self)).1
 have hno:(ty t).isNo=false:=by cases hty:ty t <;> simp[hty,Ty.cells,Ty.isNo] at hl ⊢
 generalize hx:ev (zB ps.tmps) vl=x at hrv hok hK;have hc1:yF x=[x]:=by cases x <;> first|rfl|cases hok
 have hokC:yN cO (yF x)=true:=by cases x <;> first|rfl|cases hok
 have hp:=cP hrv hokC;obtain⟨c1,c2⟩:=uY hrv hp;rw[hc1] at c1 c2;have c2:=c2 0 (by simp);have hlen:(a.eval vl).cells.toList.length=1:=by simpa using c1
 have hfit:i ()+(a.eval vl).cells.toList.length<=vs.size:=by omega
 have hrun:=bD (w:=w) (b:=b) (o:=i ()) hno hb (by rw[c1,hl];rfl) (by simp at hfit;omega) (tX hrv hokC);have hw:=wF hfit;have hnS:=(h.obj.un n _ b hmem (.inl hβ)).1;have he:=uP (w:=w) (fun i hS=>absurd (hnS i hS) id) hb hw;have hrow:∀ {j},x9 (.mat s rows (hs1++(x,k)::hs2)) j->x9 (.mat s rows (hs1++(v0,k)::hs2)) j/\j≠i ():=by intro j hj;refine⟨⟨hj.1,fun v k' hk'=>?_⟩,fun e=>hj.2 x k (List.mem_append_right _ List.mem_cons_self) (by rw[hki,e])⟩;rcases List.mem_append.1 hk' with h'|h';{exact hj.2 v k' (List.mem_append_left _ h')};{rcases List.mem_cons.1 h' with e|h';{cases e;exact hj.2 x k (List.mem_append_right _ List.mem_cons_self)};{exact hj.2 v k' (List.mem_append_right _ (List.mem_cons_of_mem _ h'))}}
 have hg:∀ j,j≠i ()->(wr vs (i ()) (a.eval vl).cells.toList).getD j undef=vs.getD j undef:=by intro j hj;rw[vX hfit,if_neg (by rw[hlen];omega)]
 have hg0:(wr vs (i ()) (a.eval vl).cells.toList).getD (i ()) undef=(a.eval vl).cells.getD 0 undef:=by rw[vX hfit,if_pos (by rw[hlen];omega),kW,Nat.sub_self]
 have hsim:=h.writeG (o:=.mat s rows (hs1++(x,k)::hs2)) hmem (fun i=>id) hβ hb hw ⟨.inr ⟨b,_,T,hβ,setRow_heap w b vs _ T _ hb,by rw[hw];exact hsz,?_,?_⟩,?_,?_⟩ ?_;{refine nX (w':=w.setRow b (wr vs (i ()) (a.eval vl).cells.toList)) (by simp only[execOp,hop,hv,Nat.mul_one,Nat.add_zero,Sem.run_bind,hrun,Result.andThen_ok,Sem.run_pure]) ?_;exact hk _ _ _ _ _ hK (x5 (ps:=⟨ps.tmps,_⟩) hsim o.dst hd (xL _))}
 ·intro v k' hk';have hold:∀ {v k'},(v,k')∈hs1++hs2->k' ()<(rows ()).length/\Rep (w.setRow b (wr vs (i ()) (a.eval vl).cells.toList)) S β ((wr vs (i ()) (a.eval vl).cells.toList).getD (k' ()) undef) v:=by
   (intro v k' hk';rw[hg _ (hoth v k' hk')];have hin:(v,k')∈hs1++(v0,k)::hs2:=by rcases List.mem_append.1 hk' with h'|h';{exact List.mem_append_left _ h'};{exact List.mem_append_right _ (List.mem_cons_of_mem _ h')});exact⟨(hhs v k' hin).1,(hhs v k' hin).2.evo he fun _ _ h=>h⟩
  rcases List.mem_append.1 hk' with h'|h';{exact hold (List.mem_append_left _ h')};{rcases List.mem_cons.1 h' with e|h';{cases e;rw[hki,hg0];exact⟨hlt,(show Rep w S β _ _ from c2).evo he fun _ _ h=>h⟩};{exact hold (List.mem_append_right _ h')}}
 {intro j hj;obtain⟨h1,h2⟩:=hrow hj;rw[hg j h2];exact (hrs j h1).evo he fun c hc=>setRow_other w b c _ (by rintro rfl;exact hM.ne j c h1 hc hβ)};{exact fun j j' c hj hj'=>hM.inj j j' c (hrow hj).1 (hrow hj').1};{exact fun j c hj=>hM.ne j c (hrow hj).1};{rintro c (e|⟨j,hj,e⟩);{exact .inl e};{exact .inr ⟨j,(hrow hj).1,e⟩}}
theorem iG (z:Array Value)(n j:Nat)(hj:j<n)(hz:0<z.size):(madeCells z n).getD j undef=z.getD (j%z.size) undef:=by have:j%z.size<z.size:=Nat.mod_lt _ hz;simp[madeCells,hj,getElem!_def,Array.getElem?_eq_getElem this]
theorem zD9 {ps:PS}{o:Oper}{t:TypeId}{l c:Operand}{d:Nat}(hop:o.op=.makeSlice t l c)(hod:o.dst=some d)(hd:d<N){K:PS->Prop}{Km:Act->World->Prop}{Q:Exit->Act->World->Prop}(h:Sim w0 S0 K0 N (zB ps.tmps) ps.objs a w S β) {n b:Nat} {z:List PV} (ht:ty t=.sli n b z) {x y:Unit->Int} (hl:ev (zB ps.tmps) l=.int .i64 x) (hc:ev (zB ps.tmps) c=.int .i64 y) (hR:Room y b) (hM:MkOk x y) (hf:yE d ps=true) (hz:yN p6 z=true) (hs:K ⟨w9 ps.tmps d (.osl d n (fun _=>0) (fun _=>(x ()).toNat)),ps.objs++[(d,.arr n (fun _=>List.replicate (x ()).toNat (xM z)))]⟩) (hk:∀ ps' a' w' S' β',K ps'->Sim w0 S0 K0 N (zB ps'.tmps) ps'.objs a' w' S' β'->Km a' w'):o.wp Pg a w Km Q:=by
 obtain⟨inf,el,j,zv,h1,h2,h3,h4,h5,h6,h7,h8,h9,h10,h11,h12⟩:=w5 ht;have hrl:=h.eval l;have hrc:=h.eval c;rw[hl] at hrl;rw[hc] at hrc;have hlv:=xV hrl;have hcv:=xV hrc;have hx0:=hM.lo;have hxy:=hM.hi;have hy0:=hR.lo;have hyb:=hR.hi;have hyle:y ()<=y ()*(b:Int):=by have:y ()*1<=y ()*(b:Int):=Int.mul_le_mul_of_nonneg_left (by omega) hy0;omega
 have hbytes:(j.bytes:Int)*y ()<=281474976710656:=by rw[h8,Int.mul_comm];omega
 have hrun:=run_make (P:=Pg) w t el j zv h4 h5 h6 .i64 .i64 (x ()) (y ()) hx0 hxy hbytes (by omega);have hsz:(madeCells zv.cells ((y ()).toNat*j.size)).size=(y ()).toNat*n:=by rw[size_madeCells,h7]
 have ld:=vB (w:=w) h.ld.bnd (.cells (madeCells zv.cells ((y ()).toNat*j.size)) el);have hzl:z.length=n:=by rw[h11];simp[h9]
 have hz':=uK (w:=w) (S:=S) (β:=β) zv.cells;rw[<-h11] at hz';have hxn:(x ()).toNat<=(y ()).toNat:=by omega
 have hn:=h.newObj (w':=w.alloc (.cells (madeCells zv.cells ((y ()).toNat*j.size)) el)) (b:=w.heap.size) (o:=.arr n (fun _=>List.replicate (x ()).toNat (xM z))) hf ld (Nat.le_refl _) (by simp)
  (.inr ⟨w.heap.size,_,el,yI,heap_alloc_new w _,by rw[hsz];simpa using Nat.mul_le_mul_right n hxn,fun e he=>by
   rw[List.eq_of_mem_replicate he,vV,hzl],fun i k hi hk'=>by
   simp only[List.length_replicate] at hi;have hlt:i*n+k<(y ()).toNat*n:=by
    calc i*n+k<i*n+n:=by omega
     _=(i+1)*n:=by rw[Nat.add_mul];omega
     _<=_:=Nat.mul_le_mul_right _ (by omega)
   (have hmod:(i*n+k)%zv.cells.size=k:=by rw[h9,Nat.add_comm,Nat.add_mul_mod_self_right,Nat.mod_eq_of_lt hk']);have hg:(madeCells zv.cells ((y ()).toNat*j.size)).getD (i*n+k) undef=zv.cells.getD k undef:=by rw[iG _ _ _ (by rw[h7];exact hlt) (by omega),hmod]
   (have hrep:(List.replicate (x ()).toNat (xM z)).getD i []=xM z:=by simp[hi]);rw[hrep,uU]
   have hr:=hz'.2 k (by omega);have hck:=xQ hz k (by omega);refine⟨?_,?_⟩;{rw[hg];exact (bF hr (aR hck)).evo (ld.evo h.ld.bnd).same (ld.subs h.ld.bnd)}
   ·rw[hg];exact fF hr (eE hck)⟩)
 refine uJ (w':=w.alloc (.cells (madeCells zv.cells ((y ()).toNat*j.size)) el)) (v:=.slice (some ⟨w.heap.size,0,none⟩) (x ()).toNat (y ()).toNat) ?_ ?_;{simp only[execOp,hop,hlv,hcv,Sem.run_bind,hrun,Result.andThen_ok,Sem.run_pure]}
 ·(rw[hod];have hv:Rep (w.alloc (.cells (madeCells zv.cells ((y ()).toNat*j.size)) el)) S (vG β d (some w.heap.size)) (.slice (some ⟨w.heap.size,0,none⟩) (x ()).toNat (y ()).toNat) (.osl d n (fun _=>0) (fun _=>(x ()).toNat)):=by have:=Rep.osl (w:=w.alloc (.cells (madeCells zv.cells ((y ()).toNat*j.size)) el)) (S:=S) (β:=vG β d (some w.heap.size)) (n:=d) (s:=n) (cap:=(y ()).toNat) (b:=w.heap.size) (o:=fun _=>0) (len:=fun _=>(x ()).toNat) yI hxn (heap_alloc_new w _) (by rw[hsz,Nat.zero_add];exact Nat.le_refl _);rwa [Nat.zero_mul] at this);exact hk _ _ _ _ _ hs (hn.putT' d hd hv)
theorem zBO {x:Option (List (List PV))}{k s:Nat}{o len:Unit->Nat}(h:zB2 x=some (k,s,o,len)):x=some [[.osl k s o len]]:=by unfold zB2 at h;split at h;{cases h;rfl};{cases h}
theorem eK {ps:PS}{o:Oper}{t:TypeId}{len:Nat}{parts:Array (Nat×Operand)}{d:Nat}(hop:o.op=.buildSlice t len parts)(hod:o.dst=some d)(hd:d<N){K:PS->Prop}{Km:Act->World->Prop}{Q:Exit->Act->World->Prop}(h:Sim w0 S0 K0 N (zB ps.tmps) ps.objs a w S β) {b:Nat} {z:List PV} (ht:ty t=.sli 1 b z) (hl:len=1) {k s:Nat} {o' len':Unit->Nat} (hf:d5 1 (wY (ev (zB ps.tmps)) parts.toList) (cF z len)=some [[.osl k s o' len']]) (hkd:y7 d (.osl k s o' len')=true) (hfr:yE d ps=true) (hs:K ⟨w9 ps.tmps d (.osl d 1 (fun _=>0) (fun _=>1)),ps.objs++[(d,.mat s (fun _=>[[]]) [(.osl k s o' len',fun _=>0)])]⟩) (hk:∀ ps' a' w' S' β',K ps'->Sim w0 S0 K0 N (zB ps'.tmps) ps'.objs a' w' S' β'->Km a' w'):o.wp Pg a w Km Q:=by
 subst hl;obtain⟨cells',el,hrun,g2,g3,g4⟩:=qM (w:=w) (S:=S) (β:=β) ht h.ld.bnd (ρ:=a.eval) (fun x=>h.eval x) hf (by omega);have ld:=vB (w:=w) h.ld.bnd (.cells cells' el);have hsz:1<=cells'.size:=by have:=g2.1;simp[uA] at this;omega
 have hc0:Rep w S β (cells'.getD 0 undef) (.osl k s o' len'):=g2.2 0 (by simp[uA]);have hnr:∀ i,¬x9 (.mat s (fun _=>[[]]) [(.osl k s o' len',fun _=>0)]) i:=by rintro i ⟨h1,h2⟩;have:=h2 _ _ List.mem_cons_self;simp at h1 this;omega
 have hn:=h.newObj (w':=w.alloc (.cells cells' el)) (b:=w.heap.size) (o:=.mat s (fun _=>[[]]) [(.osl k s o' len',fun _=>0)]) hfr ld (Nat.le_refl _) (by simp)
  ⟨.inr ⟨w.heap.size,cells',el,yI,heap_alloc_new w _,by simpa using hsz,fun v k' hk'=>by simp only[List.mem_singleton,Prod.mk.injEq] at hk';obtain⟨rfl,rfl⟩:=hk';exact⟨by simp,(hc0.evo (ld.evo h.ld.bnd) (ld.subs h.ld.bnd)).upd hkd⟩,fun i hi=>absurd hi (hnr i)⟩,fun i j b hi=>absurd hi (hnr i),fun i b hi=>absurd hi (hnr i)⟩ hnr
 refine uJ (w':=w.alloc (.cells cells' el)) (v:=.slice (some ⟨w.heap.size,0,none⟩) 1 1) ?_ ?_;{simp[execOp,hop,hrun]}
 ·(rw[hod];have hv:Rep (w.alloc (.cells cells' el)) S (vG β d (some w.heap.size)) (.slice (some ⟨w.heap.size,0,none⟩) 1 1) (.osl d 1 (fun _=>0) (fun _=>1)):=by have:=Rep.osl (w:=w.alloc (.cells cells' el)) (S:=S) (β:=vG β d (some w.heap.size)) (n:=d) (s:=1) (cap:=1) (b:=w.heap.size) (o:=fun _=>0) (len:=fun _=>1) yI (Nat.le_refl _) (heap_alloc_new w _) (by simpa using hsz);rwa [Nat.zero_mul] at this);exact hk _ _ _ _ _ hs (hn.putT' d hd hv)
theorem zAS {ps:PS}{o:Oper}{t:TypeId}{len:Nat}{parts:Array (Nat×Operand)}{d:Nat}(hop:o.op=.buildSlice t len parts)(hod:o.dst=some d)(hd:d<N){K:PS->Prop}{Km:Act->World->Prop}{Q:Exit->Act->World->Prop}(h:Sim w0 S0 K0 N (zB ps.tmps) ps.objs a w S β) {n b:Nat} {z:List PV} (ht:ty t=.sli n b z) (hl:len=0) (hp:zA6 parts.toList=true) (hfr:yE d ps=true) (hs:K ⟨w9 ps.tmps d (.osl d n (fun _=>0) (fun _=>0)),ps.objs++[(d,.arr n (fun _=>[]))]⟩) (hk:∀ ps' a' w' S' β',K ps'->Sim w0 S0 K0 N (zB ps'.tmps) ps'.objs a' w' S' β'->Km a' w'):o.wp Pg a w Km Q:=by
 subst hl;have hf:d5 n (wY (ev (zB ps.tmps)) parts.toList) (cF z 0)=some []:=by
  cases hpl:parts.toList with
  |nil=>rfl| cons x r=>rw[hpl] at hp;cases hp
 obtain⟨cells',el,hrun,g2,g3,g4⟩:=qM (w:=w) (S:=S) (β:=β) ht h.ld.bnd (ρ:=a.eval) (fun x=>h.eval x) hf (by omega);have ld:=vB (w:=w) h.ld.bnd (.cells cells' el);have hn:=Sim.newNil (ps:=ps) (lg:=false) (n:=d) (s:=n) (els:=fun _=>[]) (h.go ld) hfr rfl;refine uJ (w':=w.alloc (.cells cells' el)) (v:=.slice (some ⟨w.heap.size,0,none⟩) 0 0) ?_ ?_;{simp[execOp,hop,hrun]};{rw[hod];exact hk _ _ _ _ _ hs (hn.putT' d hd (.osl0 yI rfl rfl))}
theorem eJ {ps:PS}{o:Oper}{t:TypeId}{len:Nat}{parts:Array (Nat×Operand)}{d:Nat}(hop:o.op=.buildSlice t len parts)(hod:o.dst=some d)(hd:d<N){K:PS->Prop}{Km:Act->World->Prop}{Q:Exit->Act->World->Prop}(h:Sim w0 S0 K0 N (zB ps.tmps) ps.objs a w S β) {n b:Nat} {z:List PV} (ht:ty t=.sli n b z) {els:List (List PV)} (hf:d5 n (wY (ev (zB ps.tmps)) parts.toList) (cF z len)=some els) (hle:len*n<=1000) (hok:c6 els=true) (hfr:yE d ps=true) (hs:K ⟨w9 ps.tmps d (.osl d n (fun _=>0) (fun _=>(yV els).length)),ps.objs++[(d,.arr n (fun _=>yV els))]⟩) (hk:∀ ps' a' w' S' β',K ps'->Sim w0 S0 K0 N (zB ps'.tmps) ps'.objs a' w' S' β'->Km a' w'):o.wp Pg a w Km Q:=by
 obtain⟨cells',el,hrun,g2,g3,g4⟩:=qM (w:=w) (S:=S) (β:=β) ht h.ld.bnd (ρ:=a.eval) (fun x=>h.eval x) hf hle;have ld:=vB (w:=w) h.ld.bnd (.cells cells' el);have hsz:cells'.size=len*n:=by rw[g2.1,uX n _ g3,g4]
 have hdl:(yV els).length=len:=by rw[hH,g4]
 have hn:=h.newObj (w':=w.alloc (.cells cells' el)) (b:=w.heap.size) (o:=.arr n (fun _=>yV els)) hfr ld (Nat.le_refl _) (by simp)
  (.inr ⟨w.heap.size,cells',el,yI,heap_alloc_new w _,by rw[hsz];show (yV els).length*n<=_;rw[hdl];exact Nat.le_refl _,fun e he=>t7 els n g3 e he,fun i k hi hk'=>by
   (have hi':i<els.length:=by rw[<-hH];exact hi);have hlen:(els.getD i []).length=n:=g3 _ (by rw[List.getD_eq_getElem?_getD,List.getElem?_eq_getElem hi'];exact List.getElem_mem _)
   have hfl:i*n+k<(uA els).length:=by
    rw[uX n _ g3]
    calc i*n+k<i*n+n:=by omega
     _=(i+1)*n:=by rw[Nat.add_mul];omega
     _<=_:=Nat.mul_le_mul_right _ (by omega)
   have hr:=g2.2 (i*n+k) hfl;rw[s7 n els g3 i k hi' hk'] at hr;have hck:=rD els hok i k hi' (by omega);refine⟨?_,?_⟩;{show RepD _ _ _ (((yV els).getD i []).getD k _);rw[sX els i hi',uU];exact (bF hr (aR hck)).evo (ld.evo h.ld.bnd).same (ld.subs h.ld.bnd)}
   ·exact fF hr (eE hck)⟩)
 refine uJ (w':=w.alloc (.cells cells' el)) (v:=.slice (some ⟨w.heap.size,0,none⟩) len len) ?_ ?_;{simp[execOp,hop,hrun]}
 ·(rw[hod];have hv:Rep (w.alloc (.cells cells' el)) S (vG β d (some w.heap.size)) (.slice (some ⟨w.heap.size,0,none⟩) len len) (.osl d n (fun _=>0) (fun _=>(yV els).length)):=by have:=Rep.osl (w:=w.alloc (.cells cells' el)) (S:=S) (β:=vG β d (some w.heap.size)) (n:=d) (s:=n) (cap:=len) (b:=w.heap.size) (o:=fun _=>0) (len:=fun _=>(yV els).length) yI (by rw[hdl];exact Nat.le_refl _) (heap_alloc_new w _) (by rw[hsz,Nat.zero_add];exact Nat.le_refl _);rw[Nat.zero_mul] at this;exact hdl ▸ this);exact hk _ _ _ _ _ hs (hn.putT' d hd hv)
end
end Go.Proofs.YtfainocfaddbdaaGreat
