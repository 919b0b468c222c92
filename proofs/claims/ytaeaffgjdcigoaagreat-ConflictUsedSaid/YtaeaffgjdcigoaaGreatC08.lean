/- A part of the proof: PmK. -/
import Derived.Test.YtaeaffgjdcigoaaGreatC07
set_option linter.all false
namespace Go.Proofs.YtaeaffgjdcigoaaGreat
open Go
section
variable {w0:World} {S0:Nat->Nat->Prop} {K0:Nat->Prop} {N:Cx} {τ:Nat->PV} {objs:List (Nat×Obj')} {a:Act} {w w':World} {S S':Nat->Nat->Prop} {β:Bm}
theorem wO {ps:PS}(h:Sim w0 S0 K0 N (zB ps.tmps) ps.objs a w S β)(d:Option Nat)(hd:∀ t,d=some t->t<N){v:Value}{x:PV}(hv:Rep w S β v x):Sim w0 S0 K0 N (zB (put ps d x).tmps) (put ps d x).objs (a.put d v) w S β:=by rw[xE,qQ];exact h.put d hd hv
theorem Sim.putT' {ps:PS}(h:Sim w0 S0 K0 N (zB ps.tmps) objs a w S β)(d:Nat)(hd:d<N){v:Value}{x:PV}(hv:Rep w S β v x):Sim w0 S0 K0 N (zB (v7 ps.tmps d x)) objs (a.put (some d) v) w S β:=by
 have:=h.put (some d) (fun t e=>by grind) hv;have e:upd (zB ps.tmps) (some d) x=zB (v7 ps.tmps d x):=by funext t;simp[upd,cS]
 grind
theorem Sim.newObj {ps:PS}(h:Sim w0 S0 K0 N (zB ps.tmps) ps.objs a w S β){n b:Nat}{o:Obj'}(hf:yH n ps=true)(l:Leads w S uX w' S)(hb:w.heap.size<=b)(hb':b<w'.heap.size) (hat:ObjAt w' S (kK β n (some b)) n o) (hr:∀ i,¬vJ o i:=by intro _ hi;exact hi):Sim w0 S0 K0 N (zB ps.tmps) (ps.objs++[(n,o)]) a w' S (kK β n (some b)):=by
 simp only[yH,yT] at hf;have hmem:∀ {m x},(m,x)∈ps.objs++[(n,o)]->((m,x)∈ps.objs/\m≠n)\/(m=n/\x=o):=by intro m x hm;simp only[vX,vL] at hm;rcases hm with hm|hm;{exact .inl ⟨hm,(yK hf.2 hm).1⟩};grind
 have hg:=h.go l;refine⟨h.dfr,h.sz,hg.ld,fun t=>(hg.tmp t).upd (w9 hf.1 t),⟨?_,?_,?_,?_⟩,?_,?_⟩;{rw[gE,lW];refine⟨h.obj.nd,by simp,?_⟩;intro x hx y hy e;simp at hy;subst hy e;obtain⟨⟨m,o⟩,h1,rfl⟩:=y8.1 hx;exact (yK hf.2 h1).1 rfl};{intro m x hm;rcases hmem hm with⟨h1,h2⟩|⟨rfl,rfl⟩;{exact (hg.obj.at_ m x h1).upd h2 (yK hf.2 h1).2};omega};{intro m x c hm hβ;rcases hmem hm with⟨h1,h2⟩|⟨rfl,rfl⟩;{exact hg.obj.un m x c h1 (vA h2 hβ)};{have hβ:=y7 hr hβ;rw[yV] at hβ;cases hβ;exact⟨fun i hS=>by have:=h.ld.bnd b i hS;omega,hb'⟩}};{intro m x m' x' c hm hm' hβ hβ';rcases hmem hm with⟨h1,h2⟩|⟨rfl,rfl⟩;{rcases hmem hm' with⟨h3,h4⟩|⟨rfl,rfl⟩;{exact hg.obj.inj _ _ _ _ c h1 h3 (vA h2 hβ) (vA h4 hβ')};{have hβ':=y7 hr hβ';rw[yV] at hβ';cases hβ';have:=(h.obj.un m x b h1 (vA h2 hβ)).2;omega}};{rcases hmem hm' with⟨h3,h4⟩|⟨rfl,rfl⟩;{have hβ:=y7 hr hβ;rw[yV] at hβ;cases hβ;have:=(h.obj.un m' x' b h3 (vA h4 hβ')).2;omega};{rfl}}};{intro m x c hm hβ;rcases hmem hm with⟨h1,h2⟩|⟨rfl,rfl⟩;{exact h.own m x c h1 (vA h2 hβ)};{have hβ:=y7 hr hβ;rw[yV] at hβ;cases hβ;have:=h.ld.size;omega}};{intro m x hm hb2;rcases hmem hm with⟨h1,h2⟩|⟨rfl,rfl⟩;{rw[wK h2];exact h.keep m x h1 hb2};{have:=vV hf.2;omega}}
theorem zJ3 {lg:Bool}{n s:Nat}{els:Unit->List (List D)}(h:RowAt w S β n s els):ObjAt w S β n (gY lg s els):=by cases lg <;> exact h
theorem zD9 (lg:Bool)(s:Nat)(els:Unit->List (List D))(i:Nat):¬vJ (gY lg s els) i:=by cases lg <;> (intro hi;exact hi)
theorem zVM (lg:Bool)(s:Nat)(els:Unit->List (List D)):rowO (gY lg s els)=some (s,els):=by cases lg <;> rfl
theorem Sim.newNil {ps:PS}(h:Sim w0 S0 K0 N (zB ps.tmps) ps.objs a w S β){lg:Bool}{n s:Nat}{els:Unit->List (List D)}(hf:yH n ps=true)(he:els ()=[]):Sim w0 S0 K0 N (zB ps.tmps) (ps.objs++[(n,gY lg s els)]) a w S (kK β n none):=h.freshO hf (fun β' h=>zJ3 (.inl ⟨h,he⟩)) (zD9 lg s els)
theorem zNN {t:Nat}(h:(ty t).isNo=false):∃ i zv,Pg.info? t=some i/\i.zero=some zv/\RepL w S β zv.cells (ty t).zero:=by
 cases ht:ty t with
 |no=>grind [Ty.isNo]| sc z =>
  obtain⟨i,d,zv,h1,h2,h3,h4,h5,h6,h7,_⟩:=zG2 ht;refine⟨i,zv,h1,h4,?_⟩;rw[h6,h7];exact jA #[zv]
 |st n fs z =>
  obtain⟨i,fields,zs,h1,h2,h3,h4,h5,h6,h7,_⟩:=zG1 ht;refine⟨i,_,h1,h3,?_⟩;rw[h7];exact jA zs
 |arr len n ag z =>
  obtain⟨i,e,zs,h1,h2,h3,h4,h5,h6,h7,h8,h8',h8'',h9⟩:=lZ ht;refine⟨i,_,h1,h3,?_⟩;rw[h9];exact jA zs
 |sli n b z =>
  obtain⟨i,e,j,zv,h1,h2,h3,_⟩:=uW ht;exact⟨i,_,h1,h3,jA #[.slice none 0 0]⟩
theorem oF {o:Oper}{d:Nat}(hod:o.dst=some d)(hd:d<N){cs:List PV}{ps:PS}{K:PS->Prop}{Km:Act->World->Prop}{Q:Exit->Act->World->Prop}(h:Sim w0 S0 K0 N (zB ps.tmps) ps.objs a w S β)(hs:zFG d cs ps K) {cells:Array Value} {T:TypeId} (hr:RepL w S β cells cs) (hrun:(execOp a.eval o).run Pg w=.ok (.value (.pointer (some ⟨w.heap.size,0,none⟩))) (w.alloc (.cells cells T))) (hk:∀ ps' a' w' S' β',K ps'->Sim w0 S0 K0 N (zB ps'.tmps) ps'.objs a' w' S' β'->Km a' w') (hcs:wD d cs=true):o.wp Pg a w Km Q:=by
 unfold zFG at hs;cases hf:yH d ps with
 |false=>grind| true =>
  simp only[hf,cond_true] at hs;have l:=vQ (w:=w) h.ld.bnd (.cells cells T);have hn:=h.newObj (w':=w.alloc (.cells cells T)) (b:=w.heap.size) (o:=.box cs) hf l (zZ _) (by simp) ⟨w.heap.size,cells,T,yV,heap_alloc_new w _,hr.1,fun j hj =>
   ((hr.2 j hj).evo (l.evo h.ld.bnd) (l.subs h.ld.bnd)).upd (xR rfl hcs j)⟩
  refine qN hrun ?_;rw[hod];exact hk _ _ _ _ _ hs (hn.putT' d hd (.ptr yV))
def wr (cur:Array Value) (pos:Nat) (news:List Value):Array Value:=(cur.toList.take pos++news++cur.toList.drop (pos+news.length)).toArray
theorem i7 {cur:Array Value}{pos:Nat}{news:List Value}(h:pos+news.length<=cur.size):(wr cur pos news).size=cur.size:=by grind [wr]
theorem pF {cur:Array Value}{pos:Nat}{news:List Value}(h:pos+news.length<=cur.size)(j:Nat):(wr cur pos news).getD j undef=if pos<=j/\j<pos+news.length then news.getD (j-pos) undef else cur.getD j undef:=by
 have hl:(cur.toList.take pos).length=pos:=by grind
 simp only[wr,zQO,List.getElem?_toArray,uJ];congr 1;by_cases h1:j<pos;{grind};{by_cases h2:j<pos+news.length;{grind};grind}
theorem gT {b:Nat}{vs vs':Array Value}{T:TypeId}(hS:∀ i,S b i->vs'[i]?=vs[i]?)(hw:w.heap[b]?=some (.cells vs T (0,0)))(hsz:vs'.size=vs.size):Evo S w (w.setRow b vs') where
 same c i hc:=by by_cases e:c=b;{subst e;simp only[World.cell?,setRow_heap w c vs vs' T (0,0) hw,hw];grind};grind [cG,setRow_other]
 shape c us U hc:=by by_cases e:c=b;{grind [setRow_heap]};{exact⟨us,by grind [setRow_other],rfl⟩}
theorem RowAt.evo {n s:Nat}{els:Unit->List (List D)}(h:RowAt w S β n s els)(he:Evo S w w')(hb:∀ b,β n=some b->w'.heap[b]?=w.heap[b]?):RowAt w' S β n s els:=by rcases h with h|⟨b,vs,T,h1,h2,h3,h4,h5⟩;{exact .inl h};{exact .inr ⟨b,vs,T,h1,(hb b h1).trans h2,h3,h4,fun i j hi hj=>⟨(h5 i j hi hj).1.evo he.same (fun _ _ h=>h),(h5 i j hi hj).2⟩⟩}
theorem RowIn.evo {ob:Option Nat}{v:Value}{s:Nat}{els:List (List D)}(h:RowIn w S ob v s els)(he:Evo S w w')(hb:∀ b,ob=some b->w'.heap[b]?=w.heap[b]?):RowIn w' S ob v s els:=by rcases h with h|⟨b,cap,us,T,h1,h2,h3,h4,h5,h6,h7⟩;{exact .inl h};{exact .inr ⟨b,cap,us,T,h1,h2,h3,(hb b h1).trans h4,h5,h6,fun i j hi hj=>⟨(h7 i j hi hj).1.evo he.same (fun _ _ h=>h),(h7 i j hi hj).2⟩⟩}
theorem ObjAt.evo {n:Nat}{o:Obj'}(h:ObjAt w S β n o)(he:Evo S w w')(hbo:∀ b,Own β n o b->w'.heap[b]?=w.heap[b]?):ObjAt w' S β n o:=by
 have hb:∀ b,β n=some b->w'.heap[b]?=w.heap[b]?:=fun b h=>hbo b (.inl h);cases o with
 |box cs =>
  obtain⟨b,vs,T,h1,h2,h3,h4⟩:=h;exact⟨b,vs,T,h1,(hb b h1).trans h2,h3,fun j hj=>(h4 j hj).evo he (fun _ _ h=>h)⟩
 |arr s els=>exact RowAt.evo h he hb| log s els=>exact RowAt.evo h he hb| lent s els=>exact⟨RowAt.evo h.1 he hb,h.2⟩| mp t k=>exact MapAt.to h rfl hb| mat s rows hs =>
  obtain⟨hp,h5,h6⟩:=h;refine⟨?_,h5,h6⟩;rcases hp with hp|⟨b,vs,T,h1,h2,h3,h4,h7⟩;{grind};{exact .inr ⟨b,vs,T,h1,(hb b h1).trans h2,h3,fun v k hk=>⟨(h4 v k hk).1,(h4 v k hk).2.evo he (fun _ _ h=>h)⟩,fun i hi=>(h7 i hi).evo he fun b hb'=>hbo b (.inr ⟨i,hi,hb'⟩)⟩}
theorem Sim.writeG (h:Sim w0 S0 K0 N τ objs a w S β){n b:Nat}{o0 o:Obj'}{vs vs':Array Value}{T:TypeId}(hm:(n,o0)∈objs)(hnp:∀ i,¬jW o0 i)(hβ:β n=some b)(hw:w.heap[b]?=some (.cells vs T (0,0)))(hsz:vs'.size=vs.size) (hat:ObjAt (w.setRow b vs') S β n o) (hown:∀ c,Own β n o c->Own β n o0 c):Sim w0 S0 K0 N τ (Go.Proofs.YtaeaffgjdcigoaaGreat.setO objs n o) a (w.setRow b vs') S β:=by
 obtain⟨hnS,hlt⟩:=h.obj.un n o0 b hm (.inl hβ);have he:=gT (w:=w) (vs':=vs') (fun i hS=>absurd (hnS i hS) (hnp i)) hw hsz;have hn:n∈objs.map Prod.fst:=y8.2 ⟨_,hm,rfl⟩;have key0:∀ {m x},(m,x)∈Go.Proofs.YtaeaffgjdcigoaaGreat.setO objs n o->∃ x',(m,x')∈objs:=by
  intro m x hx;rcases xJ h.obj.nd hn hx with⟨rfl,rfl⟩|⟨_,h2⟩
  all_goals grind
 have key:∀ {m x c},(m,x)∈Go.Proofs.YtaeaffgjdcigoaaGreat.setO objs n o->Own β m x c->∃ x',(m,x')∈objs/\Own β m x' c:=by
  intro m x c hx hc;rcases xJ h.obj.nd hn hx with⟨rfl,rfl⟩|⟨_,h2⟩
  all_goals grind
 refine⟨h.dfr,h.sz,?_,fun t=>(h.tmp t).evo he (fun _ _ h=>h),⟨by rw[v8 hn];exact h.obj.nd,?_,?_,?_⟩,?_,?_⟩
 ·refine⟨by simpa using h.ld.size,h.ld.os,h.ld.tape,h.ld.output,fun c hc hk=>?_,fun c us U hc=>?_,fun c i hS=>by simpa using h.ld.bnd c i hS,h.ld.sub,h.ld.old⟩
  ·rw[setRow_other w b c vs' ?_];{exact h.ld.same c hc hk}
   ·rintro rfl;rcases h.own n o0 c hm (.inl hβ) with h'|h'
    all_goals grind
  {obtain⟨us',e1,e2⟩:=h.ld.shape c us U hc;obtain⟨us'',e3,e4⟩:=he.shape c us' U e1;grind}
 {intro m x hx;rcases xJ h.obj.nd hn hx with⟨rfl,rfl⟩|⟨h1,h2⟩;{exact hat};{refine (h.obj.at_ m x h2).evo he fun c hc=>setRow_other w b c vs' ?_;rintro rfl;exact h1 (h.obj.inj _ _ _ _ c h2 hm hc (.inl hβ))}};{intro m x c hx hc;rcases xJ h.obj.nd hn hx with⟨rfl,rfl⟩|⟨_,h2⟩;{have:=h.obj.un _ o0 c hm (hown c hc);simp_all};{simpa using h.obj.un m x c h2 hc}};{intro m x m' x' c hx hx' hc hc';obtain⟨y,h1,g1⟩:=key hx hc;obtain⟨y',h2,g2⟩:=key hx' hc';exact h.obj.inj _ _ _ _ c h1 h2 g1 g2};{intro m x c hx hc;obtain⟨y,h1,g1⟩:=key hx hc;exact h.own m y c h1 g1};{intro m x hx hb2;obtain⟨y,h1⟩:=key0 hx;exact h.keep m y h1 hb2}
theorem Sim.write (h:Sim w0 S0 K0 N τ objs a w S β){n b:Nat}{o0 o:Obj'}{vs vs':Array Value}{T:TypeId}(hm:(n,o0)∈objs)(hnp:∀ i,¬jW o0 i)(hβ:β n=some b)(hw:w.heap[b]?=some (.cells vs T (0,0)))(hsz:vs'.size=vs.size) (hat:ObjAt (w.setRow b vs') S β n o) (hr:∀ i,¬vJ o i:=by intro _ hi;exact hi):Sim w0 S0 K0 N τ (Go.Proofs.YtaeaffgjdcigoaaGreat.setO objs n o) a (w.setRow b vs') S β :=
 h.writeG hm hnp hβ hw hsz hat fun c hc=>.inl (y7 hr hc)
theorem tY {t:Nat}(hno:(ty t).isNo=false){b o:Nat}{v:Value}{cur:Array Value}{T:TypeId}(hb:w.heap[b]?=some (.cells cur T (0,0)))(hsz:v.cells.size=(ty t).cells)(hfit:o+v.cells.size<=cur.size) (h1:∀ u∈v.cells.toList,u.oneCell'=true):(Instr.storeAt t (.pointer (some ⟨b,o,none⟩)) v).run Pg w=.ok () (w.setRow b (wr cur o v.cells.toList)):=by
 obtain⟨i,d,hi,hu,hs,ha⟩:=zHI hno;have hst:=run_storeCells_at (P:=Pg) b o T v.cells.toList 0 cur w hb oM h1;simp only[alT5] at hst;have e:v.cells.size=i.size:=by omega
 simp only[Instr.storeAt,Instr.sureAddr,storeVar,Sem.run_bind,Sem.run_pure,Result.andThen_ok,uL hi,e,ne_eq,not_true_eq_false,if_false,hst];rfl
theorem pZ {x:PV}{v:Value}(h:Rep w S β v x)(hp:yR pW (yM x)=true):gO x=true:=by
 cases x with
 |agg cs=>rfl| _=>simpa[yM,yR,gO] using hp
theorem zTR:∀ {l:List PV},yR o5 l=true->yR pW l=true
 |[],_=>rfl| c::l,h=>by simp only[yR,yT] at h ⊢;exact⟨zFK h.1,zTR h.2⟩
theorem zAJ {x:PV}{v:Value}(h:Rep w S β v x)(hp:yR pW (yM x)=true):∀ u∈v.cells.toList,u.oneCell'=true:=by
 obtain⟨h1,h2⟩:=jT h (pZ h hp);intro u hu;obtain⟨j,hj,rfl⟩:=List.getElem_of_mem hu;have hj':j<(yM x).length:=by grind
 have hv:j<v.cells.size:=by omega
 have:=aX (h2 j hj') (wU hp j hj');simp_all
theorem fY (v:Value)(j:Nat):v.cells.toList.getD j undef=v.cells.getD j undef:=by simp
theorem zO8 {ps:PS}{o:Oper}{t:TypeId}{ad vl:Operand}(hop:o.op=.store t ad vl)(hd:∀ t,o.dst=some t->t<N){K:PS->Prop}{Km:Act->World->Prop}{Q:Exit->Act->World->Prop}(h:Sim w0 S0 K0 N (zB ps.tmps) ps.objs a w S β) {n off:Nat} {cs:List PV} (ha:ev (zB ps.tmps) ad=.ptr n off) (ho:yG ps.objs n=some (.box cs)) (hl:(yM (ev (zB ps.tmps) vl)).length=(ty t).cells) (hle:off+(ty t).cells<=cs.length) (h0:0<(ty t).cells) (hok:yR pW (yM (ev (zB ps.tmps) vl))=true) (hs:K (put ⟨ps.tmps,setO ps.objs n (.box (uT cs off (yM (ev (zB ps.tmps) vl))))⟩ o.dst .any)) (hk:∀ ps' a' w' S' β',K ps'->Sim w0 S0 K0 N (zB ps'.tmps) ps'.objs a' w' S' β'->Km a' w'):o.wp Pg a w Km Q:=by
 have hmem:=y5 ho;have hra:=h.eval ad;have hrv:=h.eval vl;rw[ha] at hra;obtain⟨b,hβ,hv⟩:=kC hra;obtain⟨b',vs,T,hβ',hb,hsz,hrr⟩:=zHW h ho;rw[hβ] at hβ';cases hβ';have hno:(ty t).isNo=false:=by cases hty:ty t <;> simp[hty,Ty.cells,Ty.isNo] at h0 ⊢
 have hp:=pZ hrv hok;obtain⟨c1,c2⟩:=jT hrv hp;have hfit:off+(a.eval vl).cells.toList.length<=vs.size:=by grind
 have hrun:=tY (w:=w) (b:=b) (o:=off) hno hb oM oM (zAJ hrv hok);have hw:=i7 hfit;have hnS:=(h.obj.un n _ b hmem (.inl hβ)).1;have he:=gT (w:=w) (fun i hS=>absurd (hnS i hS) id) hb hw;have hsim:=h.write (o:=.box (uT cs off (yM (ev (zB ps.tmps) vl)))) hmem (fun i=>id) hβ hb hw ⟨b,_,T,hβ,setRow_heap w b vs _ T _ hb,by grind [kB],fun j hj=>by
  (rw[kB _ _ _ oM] at hj;rw[pF hfit,aN _ _ _ oM];have e:(a.eval vl).cells.toList.length=(yM (ev (zB ps.tmps) vl)).length:=by omega);rw[e]
  by_cases hr:off<=j/\j<off+(yM (ev (zB ps.tmps) vl)).length;{rw[if_pos hr,if_pos hr,fY];exact (c2 (j-off) oM).evo he (fun _ _ h=>h)}
  ·rw[if_neg hr,if_neg hr];exact (hrr j hj).evo he (fun _ _ h=>h)⟩
 refine i8 (w':=w.setRow b (wr vs off (a.eval vl).cells.toList)) (by simp only[execOp,hop,hv,Sem.run_bind,hrun,Result.andThen_ok,Sem.run_pure]) ?_;exact hk _ _ _ _ _ hs (wO (ps:=⟨ps.tmps,_⟩) hsim o.dst hd (xK _))
theorem zIM (l:List (List D))(i k:Nat)(x:List D)(hi:i<l.length):(l.set i x).getD k []=if i=k then x else l.getD k []:=by grind
theorem zO9 {ps:PS}{o:Oper}{t:TypeId}{ad vl:Operand}(hop:o.op=.store t ad vl)(hd:∀ t,o.dst=some t->t<N){K:PS->Prop}{Km:Act->World->Prop}{Q:Exit->Act->World->Prop}(h:Sim w0 S0 K0 N (zB ps.tmps) ps.objs a w S β) {n s off:Nat} {i:Unit->Nat} {els:Unit->List (List D)} (ha:ev (zB ps.tmps) ad=.aptr n s i off) (ho:yG ps.objs n=some (.arr s els)) (hl:(yM (ev (zB ps.tmps) vl)).length=(ty t).cells) (hle:off+(ty t).cells<=s) (h0:0<(ty t).cells) (hok:yR o5 (yM (ev (zB ps.tmps) vl))=true) (hs:ElOk s els i (fun c=>K (put ⟨ps.tmps,setO ps.objs n (.arr s (fun _=>(els ()).set (i ()) (wB (uT c off (yM (ev (zB ps.tmps) vl))))))⟩ o.dst .any))) (hk:∀ ps' a' w' S' β',K ps'->Sim w0 S0 K0 N (zB ps'.tmps) ps'.objs a' w' S' β'->Km a' w'):o.wp Pg a w Km Q:=by
 have hmem:=y5 ho;have hra:=h.eval ad;have hrv:=h.eval vl;rw[ha] at hra;obtain⟨c,hcf,hcl,hck,hK⟩:=hs.h;have hlt:i ()<(els ()).length:=by grind
 obtain⟨b,hβ,hv⟩:=kP hra;rcases h.obj.at_ n _ hmem with⟨hn,he0⟩|⟨b',vs,T,hβ',hb,hsz,hwid,hrr⟩;{grind};rw[hβ] at hβ';cases hβ'
 have hno:(ty t).isNo=false:=by cases hty:ty t <;> simp[hty,Ty.cells,Ty.isNo] at h0 ⊢
 have hokC:=zTR hok;have hp:=pZ hrv hokC;obtain⟨c1,c2⟩:=jT hrv hp;have hin:i ()*s+s<=(els ()).length*s:=by
  calc i ()*s+s=(i ()+1)*s:=by grind
   _<=_:=qV _ hlt
 have hfit:i ()*s+off+(a.eval vl).cells.toList.length<=vs.size:=by grind
 have hrun:=tY (w:=w) (b:=b) (o:=i ()*s+off) hno hb oM oM (zAJ hrv hokC);have hw:=i7 hfit;have hnS:=(h.obj.un n _ b hmem (.inl hβ)).1;have he:=gT (w:=w) (fun i hS=>absurd (hnS i hS) id) hb hw;have hg:(els ()).getD (i ()) []=wB c:=by grind
 have hsim:=h.write (o:=.arr s (fun _=>(els ()).set (i ()) (wB (uT c off (yM (ev (zB ps.tmps) vl)))))) hmem (fun i=>id) hβ hb hw (.inr ⟨b,_,T,hβ,setRow_heap w b vs _ T _ hb,by grind,fun e hm=>by
  rcases List.mem_or_eq_of_mem_set hm with hm|rfl;{grind};grind [gZ,kB],fun k j hkl hj=>by
  (simp only[List.length_set] at hkl;rw[pF hfit,zIM _ _ _ _ hlt];have e:(a.eval vl).cells.toList.length=(yM (ev (zB ps.tmps) vl)).length:=by omega);rw[e]
  by_cases hki:i ()=k
  ·subst hki;rw[if_pos rfl,fC,aN _ _ _ oM];by_cases hr:off<=j/\j<off+(yM (ev (zB ps.tmps) vl)).length
   ·(rw[if_pos oM,if_pos hr,fY];have e2:i ()*s+j-(i ()*s+off)=j-off:=by omega);rw[e2]
    (have hj2:j-off<(yM (ev (zB ps.tmps) vl)).length:=by omega);exact⟨(t5 (c2 (j-off) hj2) (n7 (wU hok _ hj2))).evo he.same (fun _ _ h=>h),aX (c2 (j-off) hj2) (zFK (wU hok _ hj2))⟩
   {rw[if_neg oM,if_neg hr];have:=hrr (i ()) j hlt hj;rw[hg,fC] at this;exact⟨this.1.evo he.same (fun _ _ h=>h),this.2⟩}
  ·(rw[if_neg hki];have hout:¬(i ()*s+off<=k*s+j/\k*s+j<i ()*s+off+(yM (ev (zB ps.tmps) vl)).length):=by rcases Nat.lt_or_gt_of_ne hki with hlt'|hgt;{have:(i ()+1)*s<=k*s:=qV _ hlt';grind};{have:(k+1)*s<=i ()*s:=qV _ hgt;grind});rw[if_neg hout];have:=hrr k j hkl hj;exact⟨this.1.evo he.same (fun _ _ h=>h),this.2⟩⟩)
 refine i8 (w':=w.setRow b (wr vs (i ()*s+off) (a.eval vl).cells.toList)) (by simp only[execOp,hop,hv,Sem.run_bind,hrun,Result.andThen_ok,Sem.run_pure]) ?_;exact hk _ _ _ _ _ hK (wO (ps:=⟨ps.tmps,_⟩) hsim o.dst hd (xK _))
theorem zO7 {ps:PS}{o:Oper}{t:TypeId}{ad vl:Operand}(hop:o.op=.store t ad vl)(hd:∀ t,o.dst=some t->t<N){K:PS->Prop}{Km:Act->World->Prop}{Q:Exit->Act->World->Prop}(h:Sim w0 S0 K0 N (zB ps.tmps) ps.objs a w S β) {n s:Nat} {i:Unit->Nat} {rows:Unit->List (List (List D))} {hs0:List (PV×(Unit->Nat))} (ha:ev (zB ps.tmps) ad=.aptr n 1 i 0) (ho:yG ps.objs n=some (.mat s rows hs0)) (hl:(ty t).cells=1) (hok:oneC (ev (zB ps.tmps) vl)=true) (hs:StoH hs0 i (ev (zB ps.tmps) vl) (fun hs'=>K (put ⟨ps.tmps,setO ps.objs n (.mat s rows hs')⟩ o.dst .any))) (hk:∀ ps' a' w' S' β',K ps'->Sim w0 S0 K0 N (zB ps'.tmps) ps'.objs a' w' S' β'->Km a' w'):o.wp Pg a w Km Q:=by
 have hmem:=y5 ho;have hra:=h.eval ad;have hrv:=h.eval vl;rw[ha] at hra;obtain⟨hs1,v0,k,hs2,rfl,hki,hoth,hK⟩:=hs.h;obtain⟨b,hβ,hv⟩:=kP hra;have hM:MatAt w S β n s rows (hs1++(v0,k)::hs2):=h.obj.at_ n _ hmem;rcases hM.pl with⟨_,_,h2⟩|⟨b',vs,T,hβ',hb,hsz,hhs,hrs⟩;{grind};rw[hβ] at hβ';cases hβ'
 have hlt:i ()<(rows ()).length:=by grind
 have hno:(ty t).isNo=false:=by cases hty:ty t <;> simp[hty,Ty.cells,Ty.isNo] at hl ⊢
 generalize hx:ev (zB ps.tmps) vl=x at hrv hok hK;have hc1:yM x=[x]:=by cases x <;> first|rfl|cases hok
 have hokC:yR pW (yM x)=true:=by cases x <;> first|rfl|cases hok
 have hp:=pZ hrv hokC;obtain⟨c1,c2⟩:=jT hrv hp;rw[hc1] at c1 c2;have c2:=c2 0 (by simp);have hlen:(a.eval vl).cells.toList.length=1:=by omega
 have hfit:i ()+(a.eval vl).cells.toList.length<=vs.size:=by omega
 have hrun:=tY (w:=w) (b:=b) (o:=i ()) hno hb (by grind) oM (zAJ hrv hokC);have hw:=i7 hfit;have hnS:=(h.obj.un n _ b hmem (.inl hβ)).1;have he:=gT (w:=w) (fun i hS=>absurd (hnS i hS) id) hb hw;have hrow:∀ {j},vJ (.mat s rows (hs1++(x,k)::hs2)) j->vJ (.mat s rows (hs1++(v0,k)::hs2)) j/\j≠i ():=by intro j hj;refine⟨⟨hj.1,fun v k' hk'=>?_⟩,fun e=>hj.2 x k (mX _ xM) oM⟩;rcases vX.1 hk' with h'|h';{exact hj.2 v k' (mY _ h')};{rcases yI.1 h' with e|h';{cases e;exact hj.2 x k (mX _ xM)};{exact hj.2 v k' (mX _ (xN _ h'))}}
 have hg:∀ j,j≠i ()->(wr vs (i ()) (a.eval vl).cells.toList).getD j undef=vs.getD j undef:=by intro j hj;rw[pF hfit,if_neg oM]
 have hg0:(wr vs (i ()) (a.eval vl).cells.toList).getD (i ()) undef=(a.eval vl).cells.getD 0 undef:=by rw[pF hfit,if_pos oM,fY,lX]
 have hsim:=h.writeG (o:=.mat s rows (hs1++(x,k)::hs2)) hmem (fun i=>id) hβ hb hw ⟨.inr ⟨b,_,T,hβ,setRow_heap w b vs _ T _ hb,by omega,?_,?_⟩,?_,?_⟩ ?_;{refine i8 (w':=w.setRow b (wr vs (i ()) (a.eval vl).cells.toList)) (by simp only[execOp,hop,hv,pD,alT5,Sem.run_bind,hrun,Result.andThen_ok,Sem.run_pure]) ?_;exact hk _ _ _ _ _ hK (wO (ps:=⟨ps.tmps,_⟩) hsim o.dst hd (xK _))}
 ·intro v k' hk';have hold:∀ {v k'},(v,k')∈hs1++hs2->k' ()<(rows ()).length/\Rep (w.setRow b (wr vs (i ()) (a.eval vl).cells.toList)) S β ((wr vs (i ()) (a.eval vl).cells.toList).getD (k' ()) undef) v:=by
   (intro v k' hk';rw[hg _ (hoth v k' hk')];have hin:(v,k')∈hs1++(v0,k)::hs2:=by rcases vX.1 hk' with h'|h';{grind};{exact mX _ (xN _ h')});exact⟨(hhs v k' hin).1,(hhs v k' hin).2.evo he fun _ _ h=>h⟩
  rcases vX.1 hk' with h'|h';{exact hold (mY _ h')};{rcases yI.1 h' with e|h';{cases e;rw[hki,hg0];exact⟨hlt,(show Rep w S β _ _ from c2).evo he fun _ _ h=>h⟩};{exact hold (mX _ h')}}
 {intro j hj;obtain⟨h1,h2⟩:=hrow hj;rw[hg j h2];exact (hrs j h1).evo he fun c hc=>setRow_other w b c _ (by rintro rfl;exact hM.ne j c h1 hc hβ)};{exact fun j j' c hj hj'=>hM.inj j j' c (hrow hj).1 (hrow hj').1};{exact fun j c hj=>hM.ne j c (hrow hj).1};{rintro c (e|⟨j,hj,e⟩);{exact .inl e};{exact .inr ⟨j,(hrow hj).1,e⟩}}
theorem zBK (z:Array Value)(n j:Nat)(hj:j<n)(hz:0<z.size):(madeCells z n).getD j undef=z.getD (j%z.size) undef:=by have:j%z.size<z.size:=uH _ hz;simp[madeCells,hj,getElem!_def,zMO this]
theorem zLV {ps:PS}{o:Oper}{t:TypeId}{l c:Operand}{d:Nat}(hop:o.op=.makeSlice t l c)(hod:o.dst=some d)(hd:d<N){K:PS->Prop}{Km:Act->World->Prop}{Q:Exit->Act->World->Prop}(h:Sim w0 S0 K0 N (zB ps.tmps) ps.objs a w S β) {n b:Nat} {z:List PV} (ht:ty t=.sli n b z) {x y:Unit->Int} (hl:ev (zB ps.tmps) l=.int .i64 x) (hc:ev (zB ps.tmps) c=.int .i64 y) (hR:Room y b) (hM:MkOk x y) (hf:yH d ps=true) (hz:yR o5 z=true) (hs:K ⟨v7 ps.tmps d (.osl d n (fun _=>0) (fun _=>(x ()).toNat)),ps.objs++[(d,.arr n (fun _=>List.replicate (x ()).toNat (wB z)))]⟩) (hk:∀ ps' a' w' S' β',K ps'->Sim w0 S0 K0 N (zB ps'.tmps) ps'.objs a' w' S' β'->Km a' w'):o.wp Pg a w Km Q:=by
 obtain⟨inf,el,j,zv,h1,h2,h3,h4,h5,h6,h7,h8,h9,h10,h11,h12⟩:=uW ht;have hrl:=h.eval l;have hrc:=h.eval c;rw[hl] at hrl;rw[hc] at hrc;have hlv:=vO hrl;have hcv:=vO hrc;have hx0:=hM.lo;have hxy:=hM.hi;have hy0:=hR.lo;have hyb:=hR.hi;have hyle:y ()<=y ()*(b:Int):=by have:y ()*1<=y ()*(b:Int):=Int.mul_le_mul_of_nonneg_left oM hy0;omega
 have hbytes:(j.bytes:Int)*y ()<=281474976710656:=by grind
 have hrun:=run_make (P:=Pg) w t el j zv h4 h5 h6 .i64 .i64 (x ()) (y ()) hx0 hxy hbytes oM;have hsz:(madeCells zv.cells ((y ()).toNat*j.size)).size=(y ()).toNat*n:=by rw[size_madeCells,h7]
 have ld:=vQ (w:=w) h.ld.bnd (.cells (madeCells zv.cells ((y ()).toNat*j.size)) el);have hzl:z.length=n:=by grind
 have hz':=jA (w:=w) (S:=S) (β:=β) zv.cells;rw[<-h11] at hz';have hxn:(x ()).toNat<=(y ()).toNat:=by omega
 have hn:=h.newObj (w':=w.alloc (.cells (madeCells zv.cells ((y ()).toNat*j.size)) el)) (b:=w.heap.size) (o:=.arr n (fun _=>List.replicate (x ()).toNat (wB z))) hf ld (zZ _) (by simp)
  (.inr ⟨w.heap.size,_,el,yV,heap_alloc_new w _,by rw[hsz];simpa using qV n hxn,fun e he=>by
   rw[List.eq_of_mem_replicate he,gZ,hzl],fun i k hi hk'=>by
   simp only[List.length_replicate] at hi;have hlt:i*n+k<(y ()).toNat*n:=by
    calc i*n+k<i*n+n:=by omega
     _=(i+1)*n:=by grind
     _<=_:=qV _ oM
   (have hmod:(i*n+k)%zv.cells.size=k:=by rw[h9,zE5,Nat.add_mul_mod_self_right,qU hk']);have hg:(madeCells zv.cells ((y ()).toNat*j.size)).getD (i*n+k) undef=zv.cells.getD k undef:=by grind [zBK]
   (have hrep:(List.replicate (x ()).toNat (wB z)).getD i []=wB z:=by simp[hi]);rw[hrep,fC]
   have hr:=hz'.2 k oM;have hck:=wU hz k oM;refine⟨?_,?_⟩;{rw[hg];exact (t5 hr (n7 hck)).evo (ld.evo h.ld.bnd).same (ld.subs h.ld.bnd)};grind [aX,zFK]⟩)
 refine qN (w':=w.alloc (.cells (madeCells zv.cells ((y ()).toNat*j.size)) el)) (v:=.slice (some ⟨w.heap.size,0,none⟩) (x ()).toNat (y ()).toNat) ?_ ?_;{simp only[execOp,hop,hlv,hcv,Sem.run_bind,hrun,Result.andThen_ok,Sem.run_pure]}
 ·(rw[hod];have hv:Rep (w.alloc (.cells (madeCells zv.cells ((y ()).toNat*j.size)) el)) S (kK β d (some w.heap.size)) (.slice (some ⟨w.heap.size,0,none⟩) (x ()).toNat (y ()).toNat) (.osl d n (fun _=>0) (fun _=>(x ()).toNat)):=by have:=Rep.osl (w:=w.alloc (.cells (madeCells zv.cells ((y ()).toNat*j.size)) el)) (S:=S) (β:=kK β d (some w.heap.size)) (n:=d) (s:=n) (cap:=(y ()).toNat) (b:=w.heap.size) (o:=fun _=>0) (len:=fun _=>(x ()).toNat) yV hxn (heap_alloc_new w _) (by grind);grind);exact hk _ _ _ _ _ hs (hn.putT' d hd hv)
theorem zIJ {x:Option (List (List PV))}{k s:Nat}{o len:Unit->Nat}(h:zI0 x=some (k,s,o,len)):x=some [[.osl k s o len]]:=by unfold zI0 at h;grind
theorem zBN {ps:PS}{o:Oper}{t:TypeId}{len:Nat}{parts:Array (Nat×Operand)}{d:Nat}(hop:o.op=.buildSlice t len parts)(hod:o.dst=some d)(hd:d<N){K:PS->Prop}{Km:Act->World->Prop}{Q:Exit->Act->World->Prop}(h:Sim w0 S0 K0 N (zB ps.tmps) ps.objs a w S β) {b:Nat} {z:List PV} (ht:ty t=.sli 1 b z) (hl:len=1) {k s:Nat} {o' len':Unit->Nat} (hf:sB 1 (vZ (ev (zB ps.tmps)) parts.toList) (s5 z len)=some [[.osl k s o' len']]) (hkd:xS d (.osl k s o' len')=true) (hfr:yH d ps=true) (hs:K ⟨v7 ps.tmps d (.osl d 1 (fun _=>0) (fun _=>1)),ps.objs++[(d,.mat s (fun _=>[[]]) [(.osl k s o' len',fun _=>0)])]⟩) (hk:∀ ps' a' w' S' β',K ps'->Sim w0 S0 K0 N (zB ps'.tmps) ps'.objs a' w' S' β'->Km a' w'):o.wp Pg a w Km Q:=by
 subst hl;obtain⟨cells',el,hrun,g2,g3,g4⟩:=kO (w:=w) (S:=S) (β:=β) ht h.ld.bnd (ρ:=a.eval) (fun x=>h.eval x) hf oM;have ld:=vQ (w:=w) h.ld.bnd (.cells cells' el);have hsz:1<=cells'.size:=by have:=g2.1;grind [qX]
 have hc0:Rep w S β (cells'.getD 0 undef) (.osl k s o' len'):=g2.2 0 (by simp[qX]);have hnr:∀ i,¬vJ (.mat s (fun _=>[[]]) [(.osl k s o' len',fun _=>0)]) i:=by rintro i ⟨h1,h2⟩;grind
 have hn:=h.newObj (w':=w.alloc (.cells cells' el)) (b:=w.heap.size) (o:=.mat s (fun _=>[[]]) [(.osl k s o' len',fun _=>0)]) hfr ld (zZ _) (by simp)
  ⟨.inr ⟨w.heap.size,cells',el,yV,heap_alloc_new w _,by omega,fun v k' hk'=>by simp only[vL,Prod.mk.injEq] at hk';obtain⟨rfl,rfl⟩:=hk';exact⟨by simp,(hc0.evo (ld.evo h.ld.bnd) (ld.subs h.ld.bnd)).upd hkd⟩,fun i hi=>absurd hi (hnr i)⟩,fun i j b hi=>absurd hi (hnr i),fun i b hi=>absurd hi (hnr i)⟩ hnr
 refine qN (w':=w.alloc (.cells cells' el)) (v:=.slice (some ⟨w.heap.size,0,none⟩) 1 1) ?_ ?_;{simp[execOp,hop,hrun]}
 ·(rw[hod];have hv:Rep (w.alloc (.cells cells' el)) S (kK β d (some w.heap.size)) (.slice (some ⟨w.heap.size,0,none⟩) 1 1) (.osl d 1 (fun _=>0) (fun _=>1)):=by have:=Rep.osl (w:=w.alloc (.cells cells' el)) (S:=S) (β:=kK β d (some w.heap.size)) (n:=d) (s:=1) (cap:=1) (b:=w.heap.size) (o:=fun _=>0) (len:=fun _=>1) yV (zZ _) (heap_alloc_new w _) oM;omega);exact hk _ _ _ _ _ hs (hn.putT' d hd hv)
theorem zGZ {ps:PS}{o:Oper}{t:TypeId}{len:Nat}{parts:Array (Nat×Operand)}{d:Nat}(hop:o.op=.buildSlice t len parts)(hod:o.dst=some d)(hd:d<N){K:PS->Prop}{Km:Act->World->Prop}{Q:Exit->Act->World->Prop}(h:Sim w0 S0 K0 N (zB ps.tmps) ps.objs a w S β) {n b:Nat} {z:List PV} (ht:ty t=.sli n b z) (hl:len=0) (hp:zHX parts.toList=true) (hfr:yH d ps=true) (hs:K ⟨v7 ps.tmps d (.osl d n (fun _=>0) (fun _=>0)),ps.objs++[(d,.arr n (fun _=>[]))]⟩) (hk:∀ ps' a' w' S' β',K ps'->Sim w0 S0 K0 N (zB ps'.tmps) ps'.objs a' w' S' β'->Km a' w'):o.wp Pg a w Km Q:=by
 subst hl;have hf:sB n (vZ (ev (zB ps.tmps)) parts.toList) (s5 z 0)=some []:=by
  cases hpl:parts.toList with
  |nil=>rfl| cons x r=>rw[hpl] at hp;cases hp
 obtain⟨cells',el,hrun,g2,g3,g4⟩:=kO (w:=w) (S:=S) (β:=β) ht h.ld.bnd (ρ:=a.eval) (fun x=>h.eval x) hf oM;have ld:=vQ (w:=w) h.ld.bnd (.cells cells' el);have hn:=Sim.newNil (ps:=ps) (lg:=false) (n:=d) (s:=n) (els:=fun _=>[]) (h.go ld) hfr rfl;refine qN (w':=w.alloc (.cells cells' el)) (v:=.slice (some ⟨w.heap.size,0,none⟩) 0 0) ?_ ?_;{simp[execOp,hop,hrun]};{rw[hod];exact hk _ _ _ _ _ hs (hn.putT' d hd (.osl0 yV rfl rfl))}
theorem zBM {ps:PS}{o:Oper}{t:TypeId}{len:Nat}{parts:Array (Nat×Operand)}{d:Nat}(hop:o.op=.buildSlice t len parts)(hod:o.dst=some d)(hd:d<N){K:PS->Prop}{Km:Act->World->Prop}{Q:Exit->Act->World->Prop}(h:Sim w0 S0 K0 N (zB ps.tmps) ps.objs a w S β) {n b:Nat} {z:List PV} (ht:ty t=.sli n b z) {els:List (List PV)} (hf:sB n (vZ (ev (zB ps.tmps)) parts.toList) (s5 z len)=some els) (hle:len*n<=1000) (hok:mQ els=true) (hfr:yH d ps=true) (hs:K ⟨v7 ps.tmps d (.osl d n (fun _=>0) (fun _=>(zS els).length)),ps.objs++[(d,.arr n (fun _=>zS els))]⟩) (hk:∀ ps' a' w' S' β',K ps'->Sim w0 S0 K0 N (zB ps'.tmps) ps'.objs a' w' S' β'->Km a' w'):o.wp Pg a w Km Q:=by
 obtain⟨cells',el,hrun,g2,g3,g4⟩:=kO (w:=w) (S:=S) (β:=β) ht h.ld.bnd (ρ:=a.eval) (fun x=>h.eval x) hf hle;have ld:=vQ (w:=w) h.ld.bnd (.cells cells' el);have hsz:cells'.size=len*n:=by rw[g2.1,jR n _ g3,g4]
 have hdl:(zS els).length=len:=by rw[pP,g4]
 have hn:=h.newObj (w':=w.alloc (.cells cells' el)) (b:=w.heap.size) (o:=.arr n (fun _=>zS els)) hfr ld (zZ _) (by simp)
  (.inr ⟨w.heap.size,cells',el,yV,heap_alloc_new w _,by grind,fun e he=>zAM els n g3 e he,fun i k hi hk'=>by
   (have hi':i<els.length:=by grind);have hlen:(els.getD i []).length=n:=g3 _ (by grind)
   have hfl:i*n+k<(qX els).length:=by
    rw[jR n _ g3]
    calc i*n+k<i*n+n:=by omega
     _=(i+1)*n:=by grind
     _<=_:=qV _ oM
   have hr:=g2.2 (i*n+k) hfl;rw[iM n els g3 i k hi' hk'] at hr;have hck:=iP els hok i k hi' oM;refine⟨?_,?_⟩;{show RepD _ _ _ (((zS els).getD i []).getD k _);rw[iI els i hi',fC];exact (t5 hr (n7 hck)).evo (ld.evo h.ld.bnd).same (ld.subs h.ld.bnd)};grind [aX,zFK]⟩)
 refine qN (w':=w.alloc (.cells cells' el)) (v:=.slice (some ⟨w.heap.size,0,none⟩) len len) ?_ ?_;{simp[execOp,hop,hrun]}
 ·(rw[hod];have hv:Rep (w.alloc (.cells cells' el)) S (kK β d (some w.heap.size)) (.slice (some ⟨w.heap.size,0,none⟩) len len) (.osl d n (fun _=>0) (fun _=>(zS els).length)):=by have:=Rep.osl (w:=w.alloc (.cells cells' el)) (S:=S) (β:=kK β d (some w.heap.size)) (n:=d) (s:=n) (cap:=len) (b:=w.heap.size) (o:=fun _=>0) (len:=fun _=>(zS els).length) yV oM (heap_alloc_new w _) (by grind);grind);exact hk _ _ _ _ _ hs (hn.putT' d hd hv)
theorem zEX {ps:PS}{o:Oper}{t:TypeId}{d:Nat}(hop:o.op=.makeMap t none)(hod:o.dst=some d)(hd:d<N){K:PS->Prop}{Km:Act->World->Prop}{Q:Exit->Act->World->Prop}(h:Sim w0 S0 K0 N (zB ps.tmps) ps.objs a w S β) (hm:MapOk t) (hfr:yH d ps=true) (hs:K ⟨v7 ps.tmps d (.mpv d),ps.objs++[(d,.mp t (fun _=>[]))]⟩) (hk:∀ ps' a' w' S' β',K ps'->Sim w0 S0 K0 N (zB ps'.tmps) ps'.objs a' w' S' β'->Km a' w'):o.wp Pg a w Km Q:=by
 obtain⟨k,e,hty⟩:=hm.h;have ld:=vQ (w:=w) h.ld.bnd (.map #[] 0);have hn:=h.newObj (w':=w.alloc (.map #[] 0)) (b:=w.heap.size) (o:=.mp t (fun _=>[])) hfr ld (zZ _) (by simp)
  ⟨w.heap.size,k,e,_,yV,hty,World.ownsMap_made w Pg k _,fun x _ z=>by simp[DataW.atKey]⟩
 refine qN (w':=w.alloc (.map #[] 0)) (v:=.map (some w.heap.size)) (by simp only[execOp,hop,Sem.run_bind];rfl) ?_;rw[hod];exact hk _ _ _ _ _ hs (hn.putT' d hd (.mpv yV))
theorem zJ4 {ps:PS}(h:Sim w0 S0 K0 N (zB ps.tmps) ps.objs a w S β){m:Operand}{n t:Nat}{ks:Unit->List Int}(hm:ev (zB ps.tmps) m=.mpv n)(ho:yG ps.objs n=some (.mp t ks)):∃ (b k e:Nat) (D:DataW Unit),a.eval m=.map (some b)/\β n=some b/\zUD t k e/\w.ownsMap Pg k (plainElem Pg e) b (ks ()).length D/\∀ x:Int,(Lit.int .i64 x).wf=true->∀ z:DataW Unit,D.atKey (.int .i64 x) z=if x∈ks () then .lit (.bool true) else z:=by have hr:=h.eval m;rw[hm] at hr;obtain⟨b,hβ,hv⟩:=nH hr;obtain⟨b',k,e,D,hβ',h1,h2,h3⟩:=h.obj.at_ n _ (y5 ho);grind
theorem zP1 {e:TypeId}(he:Pg.underlying e=some .bool){v:Value}{x:Bool}{ps:List MemPlace}(h:plainElem (H:=Unit) Pg e v=some (.lit (.bool x),ps)):v=.bool x:=by unfold plainElem at h;grind
theorem zES {e:TypeId}(he:ty e=.sc .ff)(w:World):(zeroValue e).run Pg w=.ok (.bool false) w:=by
 obtain⟨i,d,zv,h1,h2,h3,h4,h5,h6,h7,_⟩:=zG2 he;have hz:zv=.bool false:=by
  cases zv with
  |bool b=>grind [wN]| pointer p=>grind [wN]| slice a l c=>grind [wN]| _=>simp[wN] at h7
 grind [rG]
theorem zGY {ps:PS}{o:Oper}{t:TypeId}{m x:Operand}(hop:o.op=.lookup t m x false)(hd:∀ t,o.dst=some t->t<N){K:PS->Prop}{Km:Act->World->Prop}{Q:Exit->Act->World->Prop}(h:Sim w0 S0 K0 N (zB ps.tmps) ps.objs a w S β) {n:Nat} {ks:Unit->List Int} {k:Unit->Int} (hm:ev (zB ps.tmps) m=.mpv n) (hx:ev (zB ps.tmps) x=.int .i64 k) (ho:yG ps.objs n=some (.mp t ks)) (hkey:KeyOk k) (hs:K (put ps o.dst (.bool (fun _=>decide (k ()∈ks ()))))) (hk:∀ ps' a' w' S' β',K ps'->Sim w0 S0 K0 N (zB ps'.tmps) ps'.objs a' w' S' β'->Km a' w'):o.wp Pg a w Km Q:=by obtain⟨b,kt,e,D,hv,hβ,⟨t1,t2,t3,t4⟩,h2,h3⟩:=zJ4 h hm ho;have hxv:=h.eval x;rw[hx] at hxv;have hxv:=vO hxv;obtain⟨v,ps',hrun,hval⟩:=h2.lookup (Maps.int_keyed t2) t1 (zES t4 w) (plainElem_bool t3 false) (key:=.int .i64 (k ())) (Maps.keyOf_int_mk t2 hkey.h);rw[h3 _ hkey.h,show (if k ()∈ks () then (DataW.lit (.bool true):DataW Unit) else .lit (.bool false))=.lit (.bool (decide (k ()∈ks ()))) by split <;> simp[*]] at hval;have:=zP1 t3 hval;subst this;exact qN (w':=w) (v:=.bool (decide (k ()∈ks ()))) (by simp only[execOp,hop,hv,hxv,Sem.run_bind,hrun,Result.andThen_ok,Sem.run_pure]) (hk _ _ _ _ _ hs (wO h o.dst hd (.c rfl (.bool _))))
theorem zBG {ps : PS} {o : Oper} {t : TypeId} {m x y : Operand} (hop : o.op = .mapUpdate t m x y) (hd : ∀ t, o.dst = some t → t < N) {K : PS → Prop} {Km : Act → World → Prop} {Q : Exit → Act → World → Prop} (h : Sim w0 S0 K0 N (zB ps.tmps) ps.objs a w S β)
    {n : Nat} {ks : Unit → List Int} {k : Unit → Int} (hm : ev (zB ps.tmps) m = .mpv n) (hx : ev (zB ps.tmps) x = .int .i64 k) (hy : ev (zB ps.tmps) y = .tt) (ho : yG ps.objs n = some (.mp t ks)) (hkey : KeyOk k) (hroom : MapRoom ks)
    (hs : K (put ⟨ps.tmps, setO ps.objs n (.mp t (fun _ => k () :: ks ()))⟩ o.dst .any))
    (hk : ∀ ps' a' w' S' β', K ps' → Sim w0 S0 K0 N (zB ps'.tmps) ps'.objs a' w' S' β' → Km a' w') : o.wp Pg a w Km Q := by
  obtain ⟨b, kt, e, D, hv, hβ, ⟨t1, t2, t3, t4⟩, h2, h3⟩ := zJ4 h hm ho
  have hxv := h.eval x
  rw [hx] at hxv
  have hxv := vO hxv
  have hyv := h.eval y
  rw [hy] at hyv
  have hyv := iF hyv
  have hD := h2.isMap
  obtain ⟨w', hrun, hown, hg⟩ := h2.update (Maps.int_keyed t2) t1 (uI hroom.h (by decide)) (key := .int .i64 (k ())) (val := .bool true) (Maps.keyOf_int_mk t2 hkey.h) (plainElem_bool t3 true)
  have hmem := y5 ho
  obtain ⟨hnS, hlt⟩ := h.obj.un n _ b hmem (.inl hβ)
  obtain ⟨es, cl, hb, _⟩ := h2
  have hsame : ∀ c, c < w.heap.size → c ≠ b → w'.heap[c]? = w.heap[c]? := fun c hc hne => hg.block c hc (fun e => hne (by grind))
  have hbb : ∀ (c : Nat) (us : Array Value) (T : TypeId), w.heap[c]? = some (.cells us T (0, 0)) → w'.heap[c]? = some (.cells us T (0, 0)) := fun c us T hc => by
    grind
  have he : Evo S w w' := ⟨fun c i hS => cG (hsame c (h.ld.bnd c i hS) (fun e => by subst e; exact hnS i hS)) i, fun c us T hc => ⟨us, hbb c us T hc, rfl⟩⟩
  have hn : n ∈ ps.objs.map Prod.fst := y8.2 ⟨_, hmem, rfl⟩
  have nr : ∀ {c}, Own β n (.mp t (fun _ => k () :: ks ())) c → Own β n (.mp t ks) c := fun hc => .inl (y7 (o := .mp t (fun _ => k () :: ks ())) (fun _ h => h) hc)
  have key : ∀ {m x c}, (m, x) ∈ Go.Proofs.YtaeaffgjdcigoaaGreat.setO ps.objs n (.mp t (fun _ => k () :: ks ())) → Own β m x c → ∃ x', (m, x') ∈ ps.objs ∧ Own β m x' c := by
    intro m x c hx hc
    rcases xJ h.obj.nd hn hx with ⟨rfl, rfl⟩ | ⟨_, h2⟩
    all_goals grind
  have hsim : Sim w0 S0 K0 N (zB ps.tmps) (Go.Proofs.YtaeaffgjdcigoaaGreat.setO ps.objs n (.mp t (fun _ => k () :: ks ()))) a w' S β := by
    refine ⟨h.dfr, h.sz, ?_, fun t => (h.tmp t).evo he (fun _ _ h => h), ⟨by rw [v8 hn]; exact h.obj.nd, ?_, ?_, ?_⟩, ?_, ?_⟩
    · refine ⟨vD h.ld.size hg.size, hg.os.trans h.ld.os, hg.tape.trans h.ld.tape, hg.output.trans h.ld.output, fun c hc hk => ?_, fun c us U hc => ?_, fun c i hS => uI (h.ld.bnd c i hS) hg.size, h.ld.sub, h.ld.old⟩
      · rw [hsame c (uI hc h.ld.size) ?_]
        · exact h.ld.same c hc hk
        · rintro rfl
          rcases h.own n _ c hmem (.inl hβ) with h' | h'
          all_goals grind
      · obtain ⟨us', e1, e2⟩ := h.ld.shape c us U hc
        grind
    · intro m x hx
      rcases xJ h.obj.nd hn hx with ⟨rfl, rfl⟩ | ⟨h1, h5⟩
      · refine ⟨b, kt, e, _, hβ, ⟨t1, t2, t3, t4⟩, hown, fun z hz y => ?_⟩
        by_cases hzk : z = k ()
        · subst hzk
          rw [Maps.atKey_put_same (k := .int .i64 (k ())) hD trivial]
          simp
        · rw [Maps.atKey_put_other (by grind), h3 z hz y]
          by_cases hzm : z ∈ ks ()
          · rw [if_pos hzm, if_pos (xN _ hzm)]
          · rw [if_neg hzm, if_neg (fun h => by rcases yI.1 h with h | h; · exact hzk h
                                                · exact hzm h)]
      · refine (h.obj.at_ m x h5).evo he fun c hc => hsame c (h.obj.un m x c h5 hc).2 ?_
        rintro rfl
        exact h1 (h.obj.inj _ _ _ _ c h5 hmem hc (.inl hβ))
    · intro m x c hx hc
      rcases xJ h.obj.nd hn hx with ⟨rfl, rfl⟩ | ⟨_, h5⟩
      · have := h.obj.un _ _ c hmem (nr hc)
        exact ⟨fun i hS => this.1 i hS, uI this.2 hg.size⟩
      · have := h.obj.un m x c h5 hc
        exact ⟨this.1, uI this.2 hg.size⟩
    · intro m x m' x' c hx hx' hc hc'
      obtain ⟨y, h1, g1⟩ := key hx hc
      obtain ⟨y', h5, g2⟩ := key hx' hc'
      exact h.obj.inj _ _ _ _ c h1 h5 g1 g2
    · intro m x c hx hc
      obtain ⟨y, h1, g1⟩ := key hx hc
      exact h.own m y c h1 g1
    · intro m x hx hb2
      rcases xJ h.obj.nd hn hx with ⟨rfl, rfl⟩ | ⟨_, h5⟩
      · exact h.keep m _ hmem hb2
      · exact h.keep m x h5 hb2
  refine i8 (w' := w') (by simp only [execOp, hop, hv, hxv, hyv, Sem.run_bind, hrun, Result.andThen_ok, Sem.run_pure]) ?_
  exact hk _ _ _ _ _ hs (wO (ps := ⟨ps.tmps, _⟩) hsim o.dst hd (xK _))
theorem zCX:∀ {els:List (List PV)} {cs:List PV},zMH els=some cs->qX els=cs/\els.length=cs.length
 |[],cs,h=>by cases h;exact⟨rfl,rfl⟩
 |[v]::r,cs,h=>by
  unfold zMH at h;cases hr:zMH r with
  |none=>grind| some l =>
   rw[hr] at h;cases h;obtain⟨h1,h2⟩:=zCX hr;exact⟨by simp[qX,h1],by simp[h2]⟩
 |[]::r,cs,h=>by cases h
 |(_::_::_)::r,cs,h=>by cases h
theorem zE0 {ps:PS}{o:Oper}{t:TypeId}{len:Nat}{parts:Array (Nat×Operand)}{d:Nat}(hop:o.op=.buildSlice t len parts)(hod:o.dst=some d)(hd:d<N){K:PS->Prop}{Km:Act->World->Prop}{Q:Exit->Act->World->Prop}(h:Sim w0 S0 K0 N (zB ps.tmps) ps.objs a w S β) {n b:Nat} {z:List PV} (ht:ty t=.sli n b z) {cs:List PV} (hn1:n=1) (hf:apK z (sB n (vZ (ev (zB ps.tmps)) parts.toList) (s5 z len))=some cs) (hl:cs.length=len) (hle:len*n<=1000) (hfr:yH d ps=true) (hcs:wD d cs=true) (hs:K ⟨v7 ps.tmps d (.osl d 1 (fun _=>0) (fun _=>len)),ps.objs++[(d,.box cs)]⟩) (hk:∀ ps' a' w' S' β',K ps'->Sim w0 S0 K0 N (zB ps'.tmps) ps'.objs a' w' S' β'->Km a' w'):o.wp Pg a w Km Q:=by
 subst hn1;unfold apK at hf;split at hf
 rotate_left
 {cases hf};split at hf
 rotate_left
 {cases hf};rename_i els hels;split at hf
 rotate_left
 {cases hf};rename_i cs' hap;split at hf
 rotate_left
 {cases hf};cases hf;obtain⟨e1,e2⟩:=zCX hap;obtain⟨cells',el,hrun,g2,g3,g4⟩:=kO (w:=w) (S:=S) (β:=β) ht h.ld.bnd (ρ:=a.eval) (fun x=>h.eval x) hels hle;rw[e1] at g2;have ld:=vQ (w:=w) h.ld.bnd (.cells cells' el);have hn:=h.newObj (w':=w.alloc (.cells cells' el)) (b:=w.heap.size) (o:=.box cs) hfr ld (zZ _) (by simp) ⟨w.heap.size,cells',el,yV,heap_alloc_new w _,g2.1,fun j hj =>
   ((g2.2 j hj).evo (ld.evo h.ld.bnd) (ld.subs h.ld.bnd)).upd (xR rfl hcs j)⟩
 refine qN (w':=w.alloc (.cells cells' el)) (v:=.slice (some ⟨w.heap.size,0,none⟩) len len) ?_ ?_;{simp[execOp,hop,hrun]}
 ·(rw[hod];have hv:Rep (w.alloc (.cells cells' el)) S (kK β d (some w.heap.size)) (.slice (some ⟨w.heap.size,0,none⟩) len len) (.osl d 1 (fun _=>0) (fun _=>len)):=by have:=Rep.osl (w:=w.alloc (.cells cells' el)) (S:=S) (β:=kK β d (some w.heap.size)) (n:=d) (s:=1) (cap:=len) (b:=w.heap.size) (o:=fun _=>0) (len:=fun _=>len) yV (zZ _) (heap_alloc_new w _) (by rw[g2.1,hl,kZ];omega);omega);exact hk _ _ _ _ _ hs (hn.putT' d hd hv)
end
end Go.Proofs.YtaeaffgjdcigoaaGreat
