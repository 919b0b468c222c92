/- A part of the proof: PmK. -/
import Derived.Test.YtfainocfaddbdaaGreatU07
set_option linter.all false
namespace Go.Proofs.YtfainocfaddbdaaGreat
open Go
section
variable {w0:World} {S0:Nat->Nat->Prop} {K0:Nat->Prop} {N:Cx} {τ:Nat->PV} {objs:List (Nat×Obj')} {a:Act} {w w':World} {S S':Nat->Nat->Prop} {β:Bm}
theorem vK {ps:PS}(h:Sim w0 S0 K0 N (zA ps.tmps) ps.objs a w S β)(d:Option Nat)(hd:∀ t,d=some t->t<N){v:Value}{x:PV}(hv:Rep w S β v x):Sim w0 S0 K0 N (zA (put ps d x).tmps) (put ps d x).objs (a.put d v) w S β:=by rw[xP,qP];exact h.put d hd hv
theorem Sim.putT' {ps:PS}(h:Sim w0 S0 K0 N (zA ps.tmps) objs a w S β)(d:Nat)(hd:d<N){v:Value}{x:PV}(hv:Rep w S β v x):Sim w0 S0 K0 N (zA (uH ps.tmps d x)) objs (a.put (some d) v) w S β:=by
 have:=h.put (some d) (fun t e=>by cases e;exact hd) hv;have e:upd (zA ps.tmps) (some d) x=zA (uH ps.tmps d x):=by funext t;simp[upd,cJ]
 rwa [e] at this
theorem Sim.newObj {ps:PS}(h:Sim w0 S0 K0 N (zA ps.tmps) ps.objs a w S β){n b:Nat}{o:Obj'}(hf:yJ n ps=true)(l:Leads w S u9 w' S)(hb:w.heap.size<=b)(hb':b<w'.heap.size) (hat:ObjAt w' S (qF β n (some b)) n o) (hr:∀ i,¬vP o i:=by intro _ hi;exact hi):Sim w0 S0 K0 N (zA ps.tmps) (ps.objs++[(n,o)]) a w' S (qF β n (some b)):=by
 simp only[yJ,y9] at hf;have hmem:∀ {m x},(m,x)∈ps.objs++[(n,o)]->((m,x)∈ps.objs/\m≠n)\/(m=n/\x=o):=by intro m x hm;simp only[wQ,kE] at hm;rcases hm with hm|hm;{exact .inl ⟨hm,(yK hf.2 hm).1⟩};{cases hm;exact .inr ⟨rfl,rfl⟩}
 have hg:=h.go l;refine⟨h.dfr,h.sz,hg.ld,fun t=>(hg.tmp t).upd (vD hf.1 t),⟨?_,?_,?_,?_⟩,?_,?_⟩;{rw[gL,sJ];refine⟨h.obj.nd,by simp,?_⟩;intro x hx y hy e;simp at hy;subst hy e;obtain⟨⟨m,o⟩,h1,rfl⟩:=yS.1 hx;exact (yK hf.2 h1).1 rfl};{intro m x hm;rcases hmem hm with⟨h1,h2⟩|⟨rfl,rfl⟩;{exact (hg.obj.at_ m x h1).upd h2 (yK hf.2 h1).2};{exact hat}};{intro m x c hm hβ;rcases hmem hm with⟨h1,h2⟩|⟨rfl,rfl⟩;{exact hg.obj.un m x c h1 (vE h2 hβ)};{have hβ:=y7 hr hβ;rw[yQ] at hβ;cases hβ;exact⟨fun i hS=>by have:=h.ld.bnd b i hS;omega,hb'⟩}};{intro m x m' x' c hm hm' hβ hβ';rcases hmem hm with⟨h1,h2⟩|⟨rfl,rfl⟩;{rcases hmem hm' with⟨h3,h4⟩|⟨rfl,rfl⟩;{exact hg.obj.inj _ _ _ _ c h1 h3 (vE h2 hβ) (vE h4 hβ')};{have hβ':=y7 hr hβ';rw[yQ] at hβ';cases hβ';have:=(h.obj.un m x b h1 (vE h2 hβ)).2;omega}};{rcases hmem hm' with⟨h3,h4⟩|⟨rfl,rfl⟩;{have hβ:=y7 hr hβ;rw[yQ] at hβ;cases hβ;have:=(h.obj.un m' x' b h3 (vE h4 hβ')).2;omega};{rfl}}};{intro m x c hm hβ;rcases hmem hm with⟨h1,h2⟩|⟨rfl,rfl⟩;{exact h.own m x c h1 (vE h2 hβ)};{have hβ:=y7 hr hβ;rw[yQ] at hβ;cases hβ;have:=h.ld.size;exact .inl oM}};{intro m x hm hb2;rcases hmem hm with⟨h1,h2⟩|⟨rfl,rfl⟩;{rw[w8 h2];exact h.keep m x h1 hb2};{have:=vX hf.2;omega}}
theorem zJN {lg:Bool}{n s:Nat}{els:Unit->List (List D)}(h:RowAt w S β n s els):ObjAt w S β n (fI lg s els):=by cases lg <;> exact h
theorem zDV (lg:Bool)(s:Nat)(els:Unit->List (List D))(i:Nat):¬vP (fI lg s els) i:=by cases lg <;> (intro hi;exact hi)
theorem zVH (lg:Bool)(s:Nat)(els:Unit->List (List D)):rowO (fI lg s els)=some (s,els):=by cases lg <;> rfl
theorem Sim.newNil {ps:PS}(h:Sim w0 S0 K0 N (zA ps.tmps) ps.objs a w S β){lg:Bool}{n s:Nat}{els:Unit->List (List D)}(hf:yJ n ps=true)(he:els ()=[]):Sim w0 S0 K0 N (zA ps.tmps) (ps.objs++[(n,fI lg s els)]) a w S (qF β n none):=h.freshO hf (fun β' h=>zJN (.inl ⟨h,he⟩)) (zDV lg s els)
theorem zNJ {t:Nat}(h:(ty t).isNo=false):∃ i zv,Pg.info? t=some i/\i.zero=some zv/\RepL w S β zv.cells (ty t).zero:=by
 cases ht:ty t with
 |no=>simp[ht,Ty.isNo] at h| sc z =>
  obtain⟨i,d,zv,h1,h2,h3,h4,h5,h6,h7,_⟩:=zK1 ht;refine⟨i,zv,h1,h4,?_⟩;rw[h6,h7];exact jG #[zv]
 |st n fs z =>
  obtain⟨i,fields,zs,h1,h2,h3,h4,h5,h6,h7,_⟩:=zGU ht;refine⟨i,_,h1,h3,?_⟩;rw[h7];exact jG zs
 |arr len n ag z =>
  obtain⟨i,e,zs,h1,h2,h3,h4,h5,h6,h7,h8,h8',h8'',h9⟩:=lK ht;refine⟨i,_,h1,h3,?_⟩;rw[h9];exact jG zs
 |sli n b z =>
  obtain⟨i,e,j,zv,h1,h2,h3,_⟩:=uR ht;exact⟨i,_,h1,h3,jG #[.slice none 0 0]⟩
theorem eL {o:Oper}{d:Nat}(hod:o.dst=some d)(hd:d<N){cs:List PV}{ps:PS}{K:PS->Prop}{Km:Act->World->Prop}{Q:Exit->Act->World->Prop}(h:Sim w0 S0 K0 N (zA ps.tmps) ps.objs a w S β)(hs:zE2 d cs ps K) {cells:Array Value} {T:TypeId} (hr:RepL w S β cells cs) (hrun:(execOp a.eval o).run Pg w=.ok (.value (.pointer (some ⟨w.heap.size,0,none⟩))) (w.alloc (.cells cells T))) (hk:∀ ps' a' w' S' β',K ps'->Sim w0 S0 K0 N (zA ps'.tmps) ps'.objs a' w' S' β'->Km a' w') (hcs:w6 d cs=true):o.wp Pg a w Km Q:=by
 unfold zE2 at hs;cases hf:yJ d ps with
 |false=>simp[hf] at hs| true =>
  simp only[hf,cond_true] at hs;have l:=uY (w:=w) h.ld.bnd (.cells cells T);have hn:=h.newObj (w':=w.alloc (.cells cells T)) (b:=w.heap.size) (o:=.box cs) hf l (zV _) (by simp) ⟨w.heap.size,cells,T,yQ,heap_alloc_new w _,hr.1,fun j hj =>
   ((hr.2 j hj).evo (l.evo h.ld.bnd) (l.subs h.ld.bnd)).upd (xU rfl hcs j)⟩
  refine jC hrun ?_;rw[hod];exact hk _ _ _ _ _ hs (hn.putT' d hd (.ptr yQ))
def wr (cur:Array Value) (pos:Nat) (news:List Value):Array Value:=(cur.toList.take pos++news++cur.toList.drop (pos+news.length)).toArray
theorem vV {cur:Array Value}{pos:Nat}{news:List Value}(h:pos+news.length<=cur.size):(wr cur pos news).size=cur.size:=by simp[wr];omega
theorem kF {cur:Array Value}{pos:Nat}{news:List Value}(h:pos+news.length<=cur.size)(j:Nat):(wr cur pos news).getD j undef=if pos<=j/\j<pos+news.length then news.getD (j-pos) undef else cur.getD j undef:=by
 have hl:(cur.toList.take pos).length=pos:=by simp;omega
 simp only[wr,zLG,zQZ,yC];congr 1;by_cases h1:j<pos;{rw[if_neg oM,zQY,uD oM,wG h1];simp}
 ·by_cases h2:j<pos+news.length;{rw[if_pos oM,zQY,uN oM,hl,uD oM]}
  ·(rw[if_neg oM,uN (by simp;omega),fQ];have:pos+news.length+(j-(List.take pos cur.toList++news).length)=j:=by simp;omega);rw[this]
   simp
theorem jO {b:Nat}{vs vs':Array Value}{T:TypeId}(hS:∀ i,S b i->vs'[i]?=vs[i]?)(hw:w.heap[b]?=some (.cells vs T (0,0)))(hsz:vs'.size=vs.size):Evo S w (w.setRow b vs') where
 same c i hc:=by by_cases e:c=b;{subst e;simp only[World.cell?,setRow_heap w c vs vs' T (0,0) hw,hw];exact hS i hc};{exact cE (setRow_other w b c vs' e) i}
 shape c us U hc:=by by_cases e:c=b;{subst e;rw[hw] at hc;cases hc;exact⟨vs',setRow_heap w c vs vs' T (0,0) hw,hsz⟩};{exact⟨us,by rw[setRow_other w b c vs' e];exact hc,rfl⟩}
theorem RowAt.evo {n s:Nat}{els:Unit->List (List D)}(h:RowAt w S β n s els)(he:Evo S w w')(hb:∀ b,β n=some b->w'.heap[b]?=w.heap[b]?):RowAt w' S β n s els:=by rcases h with h|⟨b,vs,T,h1,h2,h3,h4,h5⟩;{exact .inl h};{exact .inr ⟨b,vs,T,h1,(hb b h1).trans h2,h3,h4,fun i j hi hj=>⟨(h5 i j hi hj).1.evo he.same (fun _ _ h=>h),(h5 i j hi hj).2⟩⟩}
theorem RowIn.evo {ob:Option Nat}{v:Value}{s:Nat}{els:List (List D)}(h:RowIn w S ob v s els)(he:Evo S w w')(hb:∀ b,ob=some b->w'.heap[b]?=w.heap[b]?):RowIn w' S ob v s els:=by rcases h with h|⟨b,cap,us,T,h1,h2,h3,h4,h5,h6,h7⟩;{exact .inl h};{exact .inr ⟨b,cap,us,T,h1,h2,h3,(hb b h1).trans h4,h5,h6,fun i j hi hj=>⟨(h7 i j hi hj).1.evo he.same (fun _ _ h=>h),(h7 i j hi hj).2⟩⟩}
theorem ObjAt.evo {n:Nat}{o:Obj'}(h:ObjAt w S β n o)(he:Evo S w w')(hbo:∀ b,Own β n o b->w'.heap[b]?=w.heap[b]?):ObjAt w' S β n o:=by
 have hb:∀ b,β n=some b->w'.heap[b]?=w.heap[b]?:=fun b h=>hbo b (.inl h);cases o with
 |box cs =>
  obtain⟨b,vs,T,h1,h2,h3,h4⟩:=h;exact⟨b,vs,T,h1,(hb b h1).trans h2,h3,fun j hj=>(h4 j hj).evo he (fun _ _ h=>h)⟩
 |arr s els=>exact RowAt.evo h he hb| log s els=>exact RowAt.evo h he hb| lent s els=>exact⟨RowAt.evo h.1 he hb,h.2⟩| mat s rows hs =>
  obtain⟨hp,h5,h6⟩:=h;refine⟨?_,h5,h6⟩;rcases hp with hp|⟨b,vs,T,h1,h2,h3,h4,h7⟩;{exact .inl hp};{exact .inr ⟨b,vs,T,h1,(hb b h1).trans h2,h3,fun v k hk=>⟨(h4 v k hk).1,(h4 v k hk).2.evo he (fun _ _ h=>h)⟩,fun i hi=>(h7 i hi).evo he fun b hb'=>hbo b (.inr ⟨i,hi,hb'⟩)⟩}
theorem Sim.writeG (h:Sim w0 S0 K0 N τ objs a w S β){n b:Nat}{o0 o:Obj'}{vs vs':Array Value}{T:TypeId}(hm:(n,o0)∈objs)(hnp:∀ i,¬j5 o0 i)(hβ:β n=some b)(hw:w.heap[b]?=some (.cells vs T (0,0)))(hsz:vs'.size=vs.size) (hat:ObjAt (w.setRow b vs') S β n o) (hown:∀ c,Own β n o c->Own β n o0 c):Sim w0 S0 K0 N τ (Go.Proofs.YtfainocfaddbdaaGreat.setO objs n o) a (w.setRow b vs') S β:=by
 obtain⟨hnS,hlt⟩:=h.obj.un n o0 b hm (.inl hβ);have he:=jO (w:=w) (vs':=vs') (fun i hS=>absurd (hnS i hS) (hnp i)) hw hsz;have hn:n∈objs.map Prod.fst:=yS.2 ⟨_,hm,rfl⟩;have key0:∀ {m x},(m,x)∈Go.Proofs.YtfainocfaddbdaaGreat.setO objs n o->∃ x',(m,x')∈objs:=by intro m x hx;rcases wF h.obj.nd hn hx with⟨rfl,rfl⟩|⟨_,h2⟩;{exact⟨o0,hm⟩};{exact⟨x,h2⟩}
 have key:∀ {m x c},(m,x)∈Go.Proofs.YtfainocfaddbdaaGreat.setO objs n o->Own β m x c->∃ x',(m,x')∈objs/\Own β m x' c:=by intro m x c hx hc;rcases wF h.obj.nd hn hx with⟨rfl,rfl⟩|⟨_,h2⟩;{exact⟨o0,hm,hown c hc⟩};{exact⟨x,h2,hc⟩}
 refine⟨h.dfr,h.sz,?_,fun t=>(h.tmp t).evo he (fun _ _ h=>h),⟨by rw[uK hn];exact h.obj.nd,?_,?_,?_⟩,?_,?_⟩;{refine⟨by simpa using h.ld.size,h.ld.os,h.ld.tape,h.ld.output,fun c hc hk=>?_,fun c us U hc=>?_,fun c i hS=>by simpa using h.ld.bnd c i hS,h.ld.sub,h.ld.old⟩;{rw[setRow_other w b c vs' ?_];{exact h.ld.same c hc hk};{rintro rfl;rcases h.own n o0 c hm (.inl hβ) with h'|h';{omega};{exact hk h'}}};{obtain⟨us',e1,e2⟩:=h.ld.shape c us U hc;obtain⟨us'',e3,e4⟩:=he.shape c us' U e1;exact⟨us'',e3,e4.trans e2⟩}};{intro m x hx;rcases wF h.obj.nd hn hx with⟨rfl,rfl⟩|⟨h1,h2⟩;{exact hat};{refine (h.obj.at_ m x h2).evo he fun c hc=>setRow_other w b c vs' ?_;rintro rfl;exact h1 (h.obj.inj _ _ _ _ c h2 hm hc (.inl hβ))}};{intro m x c hx hc;rcases wF h.obj.nd hn hx with⟨rfl,rfl⟩|⟨_,h2⟩;{have:=h.obj.un _ o0 c hm (hown c hc);exact⟨fun i hS=>absurd (this.1 i hS) (hnp i),by simpa using this.2⟩};{simpa using h.obj.un m x c h2 hc}};{intro m x m' x' c hx hx' hc hc';obtain⟨y,h1,g1⟩:=key hx hc;obtain⟨y',h2,g2⟩:=key hx' hc';exact h.obj.inj _ _ _ _ c h1 h2 g1 g2};{intro m x c hx hc;obtain⟨y,h1,g1⟩:=key hx hc;exact h.own m y c h1 g1};{intro m x hx hb2;obtain⟨y,h1⟩:=key0 hx;exact h.keep m y h1 hb2}
theorem Sim.write (h:Sim w0 S0 K0 N τ objs a w S β){n b:Nat}{o0 o:Obj'}{vs vs':Array Value}{T:TypeId}(hm:(n,o0)∈objs)(hnp:∀ i,¬j5 o0 i)(hβ:β n=some b)(hw:w.heap[b]?=some (.cells vs T (0,0)))(hsz:vs'.size=vs.size) (hat:ObjAt (w.setRow b vs') S β n o) (hr:∀ i,¬vP o i:=by intro _ hi;exact hi):Sim w0 S0 K0 N τ (Go.Proofs.YtfainocfaddbdaaGreat.setO objs n o) a (w.setRow b vs') S β :=
 h.writeG hm hnp hβ hw hsz hat fun c hc=>.inl (y7 hr hc)
theorem tT {t:Nat}(hno:(ty t).isNo=false){b o:Nat}{v:Value}{cur:Array Value}{T:TypeId}(hb:w.heap[b]?=some (.cells cur T (0,0)))(hsz:v.cells.size=(ty t).cells)(hfit:o+v.cells.size<=cur.size) (h1:∀ u∈v.cells.toList,u.oneCell'=true):(Instr.storeAt t (.pointer (some ⟨b,o,none⟩)) v).run Pg w=.ok () (w.setRow b (wr cur o v.cells.toList)):=by
 obtain⟨i,d,hi,hu,hs,ha⟩:=zG4 hno;have hst:=run_storeCells_at (P:=Pg) b o T v.cells.toList 0 cur w hb (by simpa using hfit) h1;simp only[gM] at hst;have e:v.cells.size=i.size:=by rw[hsz,hs]
 simp only[Instr.storeAt,Instr.sureAddr,storeVar,Sem.run_bind,Sem.run_pure,Result.andThen_ok,uU hi,e,ne_eq,not_true_eq_false,if_false,hst];rfl
theorem pU {x:PV}{v:Value}(h:Rep w S β v x)(hp:yV pT (yP x)=true):gV x=true:=by
 cases x with
 |agg cs=>rfl| _=>simpa[yP,yV,gV] using hp
theorem zT0:∀ {l:List PV},yV oJ l=true->yV pT l=true
 |[],_=>rfl| c::l,h=>by simp only[yV,y9] at h ⊢;exact⟨zE6 h.1,zT0 h.2⟩
theorem zAE {x:PV}{v:Value}(h:Rep w S β v x)(hp:yV pT (yP x)=true):∀ u∈v.cells.toList,u.oneCell'=true:=by
 obtain⟨h1,h2⟩:=j4 h (pU h hp);intro u hu;obtain⟨j,hj,rfl⟩:=List.getElem_of_mem hu;have hj':j<(yP x).length:=by rw[<-h1];simpa using hj
 have hv:j<v.cells.size:=by simpa using hj
 have:=aF (h2 j hj') (wV hp j hj');simpa[hv] using this
theorem f5 (v:Value)(j:Nat):v.cells.toList.getD j undef=v.cells.getD j undef:=by simp
theorem zPA {ps:PS}{o:Oper}{t:TypeId}{ad vl:Operand}(hop:o.op=.store t ad vl)(hd:∀ t,o.dst=some t->t<N){K:PS->Prop}{Km:Act->World->Prop}{Q:Exit->Act->World->Prop}(h:Sim w0 S0 K0 N (zA ps.tmps) ps.objs a w S β) {n off:Nat} {cs:List PV} (ha:ev (zA ps.tmps) ad=.ptr n off) (ho:yA ps.objs n=some (.box cs)) (hl:(yP (ev (zA ps.tmps) vl)).length=(ty t).cells) (hle:off+(ty t).cells<=cs.length) (h0:0<(ty t).cells) (hok:yV pT (yP (ev (zA ps.tmps) vl))=true) (hs:K (put ⟨ps.tmps,setO ps.objs n (.box (uQ cs off (yP (ev (zA ps.tmps) vl))))⟩ o.dst .any)) (hk:∀ ps' a' w' S' β',K ps'->Sim w0 S0 K0 N (zA ps'.tmps) ps'.objs a' w' S' β'->Km a' w'):o.wp Pg a w Km Q:=by
 have hmem:=xH ho;have hra:=h.eval ad;have hrv:=h.eval vl;rw[ha] at hra;obtain⟨b,hβ,hv⟩:=k9 hra;obtain⟨b',vs,T,hβ',hb,hsz,hrr⟩:=zHG h ho;rw[hβ] at hβ';cases hβ';have hno:(ty t).isNo=false:=by cases hty:ty t <;> simp[hty,Ty.cells,Ty.isNo] at h0 ⊢
 have hp:=pU hrv hok;obtain⟨c1,c2⟩:=j4 hrv hp;have hfit:off+(a.eval vl).cells.toList.length<=vs.size:=by simp;omega
 have hrun:=tT (w:=w) (b:=b) (o:=off) hno hb (by rw[c1,hl]) (by rw[c1];omega) (zAE hrv hok);have hw:=vV hfit;have hnS:=(h.obj.un n _ b hmem (.inl hβ)).1;have he:=jO (w:=w) (fun i hS=>absurd (hnS i hS) id) hb hw;have hsim:=h.write (o:=.box (uQ cs off (yP (ev (zA ps.tmps) vl)))) hmem (fun i=>id) hβ hb hw ⟨b,_,T,hβ,setRow_heap w b vs _ T _ hb,by rw[hw,hsz,kI _ _ _ oM],fun j hj=>by
  (rw[kI _ _ _ oM] at hj;rw[kF hfit,bY _ _ _ oM];have e:(a.eval vl).cells.toList.length=(yP (ev (zA ps.tmps) vl)).length:=by simpa using c1);rw[e]
  by_cases hr:off<=j/\j<off+(yP (ev (zA ps.tmps) vl)).length;{rw[if_pos hr,if_pos hr,f5];exact (c2 (j-off) oM).evo he (fun _ _ h=>h)}
  ·rw[if_neg hr,if_neg hr];exact (hrr j hj).evo he (fun _ _ h=>h)⟩
 refine zDA (w':=w.setRow b (wr vs off (a.eval vl).cells.toList)) (by simp only[execOp,hop,hv,Sem.run_bind,hrun,Result.andThen_ok,Sem.run_pure]) ?_;exact hk _ _ _ _ _ hs (vK (ps:=⟨ps.tmps,_⟩) hsim o.dst hd (wJ _))
theorem zIB (l:List (List D))(i k:Nat)(x:List D)(hi:i<l.length):(l.set i x).getD k []=if i=k then x else l.getD k []:=by simp only[yC,kV];by_cases h:i=k;{subst h;simp[hi]};{simp[h]}
theorem zPB {ps:PS}{o:Oper}{t:TypeId}{ad vl:Operand}(hop:o.op=.store t ad vl)(hd:∀ t,o.dst=some t->t<N){K:PS->Prop}{Km:Act->World->Prop}{Q:Exit->Act->World->Prop}(h:Sim w0 S0 K0 N (zA ps.tmps) ps.objs a w S β) {n s off:Nat} {i:Unit->Nat} {els:Unit->List (List D)} (ha:ev (zA ps.tmps) ad=.aptr n s i off) (ho:yA ps.objs n=some (.arr s els)) (hl:(yP (ev (zA ps.tmps) vl)).length=(ty t).cells) (hle:off+(ty t).cells<=s) (h0:0<(ty t).cells) (hok:yV oJ (yP (ev (zA ps.tmps) vl))=true) (hs:ElOk s els i (fun c=>K (put ⟨ps.tmps,setO ps.objs n (.arr s (fun _=>(els ()).set (i ()) (x6 (uQ c off (yP (ev (zA ps.tmps) vl))))))⟩ o.dst .any))) (hk:∀ ps' a' w' S' β',K ps'->Sim w0 S0 K0 N (zA ps'.tmps) ps'.objs a' w' S' β'->Km a' w'):o.wp Pg a w Km Q:=by
 have hmem:=xH ho;have hra:=h.eval ad;have hrv:=h.eval vl;rw[ha] at hra;obtain⟨c,hcf,hcl,hck,hK⟩:=hs.h;have hlt:i ()<(els ()).length:=by rcases wE (i ()) (els ()).length with h'|h';{exact h'};{rw[jT h'] at hck;cases hck}
 obtain⟨b,hβ,hv⟩:=gD hra;rcases h.obj.at_ n _ hmem with⟨hn,he0⟩|⟨b',vs,T,hβ',hb,hsz,hwid,hrr⟩;{rw[he0] at hlt;simp at hlt};rw[hβ] at hβ';cases hβ'
 have hno:(ty t).isNo=false:=by cases hty:ty t <;> simp[hty,Ty.cells,Ty.isNo] at h0 ⊢
 have hokC:=zT0 hok;have hp:=pU hrv hokC;obtain⟨c1,c2⟩:=j4 hrv hp;have hin:i ()*s+s<=(els ()).length*s:=by
  calc i ()*s+s=(i ()+1)*s:=by rw[w7];omega
   _<=_:=qE _ hlt
 have hfit:i ()*s+off+(a.eval vl).cells.toList.length<=vs.size:=by simp;omega
 have hrun:=tT (w:=w) (b:=b) (o:=i ()*s+off) hno hb (by rw[c1,hl]) (by rw[c1];omega) (zAE hrv hokC);have hw:=vV hfit;have hnS:=(h.obj.un n _ b hmem (.inl hβ)).1;have he:=jO (w:=w) (fun i hS=>absurd (hnS i hS) id) hb hw;have hg:(els ()).getD (i ()) []=x6 c:=by rw[yC,hck];rfl
 have hsim:=h.write (o:=.arr s (fun _=>(els ()).set (i ()) (x6 (uQ c off (yP (ev (zA ps.tmps) vl)))))) hmem (fun i=>id) hβ hb hw (.inr ⟨b,_,T,hβ,setRow_heap w b vs _ T _ hb,by rw[hw];simpa using hsz,fun e hm=>by
  rcases zMQ hm with hm|rfl;{exact hwid e hm}
  ·rw[kB,kI _ _ _ oM,hcl],fun k j hkl hj=>by
  (simp only[kD] at hkl;rw[kF hfit,zIB _ _ _ _ hlt];have e:(a.eval vl).cells.toList.length=(yP (ev (zA ps.tmps) vl)).length:=by simpa using c1);rw[e]
  by_cases hki:i ()=k
  ·subst hki;rw[if_pos rfl,jX,bY _ _ _ oM];by_cases hr:off<=j/\j<off+(yP (ev (zA ps.tmps) vl)).length
   ·(rw[if_pos oM,if_pos hr,f5];have e2:i ()*s+j-(i ()*s+off)=j-off:=by omega);rw[e2]
    (have hj2:j-off<(yP (ev (zA ps.tmps) vl)).length:=by omega);exact⟨(tV (c2 (j-off) hj2) (nT (wV hok _ hj2))).evo he.same (fun _ _ h=>h),aF (c2 (j-off) hj2) (zE6 (wV hok _ hj2))⟩
   {rw[if_neg oM,if_neg hr];have:=hrr (i ()) j hlt hj;rw[hg,jX] at this;exact⟨this.1.evo he.same (fun _ _ h=>h),this.2⟩}
  ·(rw[if_neg hki];have hout:¬(i ()*s+off<=k*s+j/\k*s+j<i ()*s+off+(yP (ev (zA ps.tmps) vl)).length):=by rcases Nat.lt_or_gt_of_ne hki with hlt'|hgt;{have:(i ()+1)*s<=k*s:=qE _ hlt';rw[w7] at this;omega};{have:(k+1)*s<=i ()*s:=qE _ hgt;rw[w7] at this;omega});rw[if_neg hout];have:=hrr k j hkl hj;exact⟨this.1.evo he.same (fun _ _ h=>h),this.2⟩⟩)
 refine zDA (w':=w.setRow b (wr vs (i ()*s+off) (a.eval vl).cells.toList)) (by simp only[execOp,hop,hv,Sem.run_bind,hrun,Result.andThen_ok,Sem.run_pure]) ?_;exact hk _ _ _ _ _ hK (vK (ps:=⟨ps.tmps,_⟩) hsim o.dst hd (wJ _))
theorem zO9 {ps:PS}{o:Oper}{t:TypeId}{ad vl:Operand}(hop:o.op=.store t ad vl)(hd:∀ t,o.dst=some t->t<N){K:PS->Prop}{Km:Act->World->Prop}{Q:Exit->Act->World->Prop}(h:Sim w0 S0 K0 N (zA ps.tmps) ps.objs a w S β) {n s:Nat} {i:Unit->Nat} {rows:Unit->List (List (List D))} {hs0:List (PV×(Unit->Nat))} (ha:ev (zA ps.tmps) ad=.aptr n 1 i 0) (ho:yA ps.objs n=some (.mat s rows hs0)) (hl:(ty t).cells=1) (hok:oneC (ev (zA ps.tmps) vl)=true) (hs:StoH hs0 i (ev (zA ps.tmps) vl) (fun hs'=>K (put ⟨ps.tmps,setO ps.objs n (.mat s rows hs')⟩ o.dst .any))) (hk:∀ ps' a' w' S' β',K ps'->Sim w0 S0 K0 N (zA ps'.tmps) ps'.objs a' w' S' β'->Km a' w'):o.wp Pg a w Km Q:=by
 have hmem:=xH ho;have hra:=h.eval ad;have hrv:=h.eval vl;rw[ha] at hra;obtain⟨hs1,v0,k,hs2,rfl,hki,hoth,hK⟩:=hs.h;obtain⟨b,hβ,hv⟩:=gD hra;have hM:MatAt w S β n s rows (hs1++(v0,k)::hs2):=h.obj.at_ n _ hmem;rcases hM.pl with⟨_,_,h2⟩|⟨b',vs,T,hβ',hb,hsz,hhs,hrs⟩;{simp at h2};rw[hβ] at hβ';cases hβ'
 have hlt:i ()<(rows ()).length:=by rw[<-hki];exact (hhs v0 k (c9 _ xD)).1
 have hno:(ty t).isNo=false:=by cases hty:ty t <;> simp[hty,Ty.cells,Ty.isNo] at hl ⊢
 generalize hx:ev (zA ps.tmps) vl=x at hrv hok hK;have hc1:yP x=[x]:=by cases x <;> first|rfl|cases hok
 have hokC:yV pT (yP x)=true:=by cases x <;> first|rfl|cases hok
 have hp:=pU hrv hokC;obtain⟨c1,c2⟩:=j4 hrv hp;rw[hc1] at c1 c2;have c2:=c2 0 (by simp);have hlen:(a.eval vl).cells.toList.length=1:=by simpa using c1
 have hfit:i ()+(a.eval vl).cells.toList.length<=vs.size:=by omega
 have hrun:=tT (w:=w) (b:=b) (o:=i ()) hno hb (by rw[c1,hl];rfl) (by simp at hfit;omega) (zAE hrv hokC);have hw:=vV hfit;have hnS:=(h.obj.un n _ b hmem (.inl hβ)).1;have he:=jO (w:=w) (fun i hS=>absurd (hnS i hS) id) hb hw;have hrow:∀ {j},vP (.mat s rows (hs1++(x,k)::hs2)) j->vP (.mat s rows (hs1++(v0,k)::hs2)) j/\j≠i ():=by intro j hj;refine⟨⟨hj.1,fun v k' hk'=>?_⟩,fun e=>hj.2 x k (c9 _ xD) (by rw[hki,e])⟩;rcases wQ.1 hk' with h'|h';{exact hj.2 v k' (dB _ h')};{rcases z9.1 h' with e|h';{cases e;exact hj.2 x k (c9 _ xD)};{exact hj.2 v k' (c9 _ (xI _ h'))}}
 have hg:∀ j,j≠i ()->(wr vs (i ()) (a.eval vl).cells.toList).getD j undef=vs.getD j undef:=by intro j hj;rw[kF hfit,if_neg (by rw[hlen];omega)]
 have hg0:(wr vs (i ()) (a.eval vl).cells.toList).getD (i ()) undef=(a.eval vl).cells.getD 0 undef:=by rw[kF hfit,if_pos (by rw[hlen];omega),f5,dM]
 have hsim:=h.writeG (o:=.mat s rows (hs1++(x,k)::hs2)) hmem (fun i=>id) hβ hb hw ⟨.inr ⟨b,_,T,hβ,setRow_heap w b vs _ T _ hb,by rw[hw];exact hsz,?_,?_⟩,?_,?_⟩ ?_;{refine zDA (w':=w.setRow b (wr vs (i ()) (a.eval vl).cells.toList)) (by simp only[execOp,hop,hv,c8,gM,Sem.run_bind,hrun,Result.andThen_ok,Sem.run_pure]) ?_;exact hk _ _ _ _ _ hK (vK (ps:=⟨ps.tmps,_⟩) hsim o.dst hd (wJ _))}
 ·intro v k' hk';have hold:∀ {v k'},(v,k')∈hs1++hs2->k' ()<(rows ()).length/\Rep (w.setRow b (wr vs (i ()) (a.eval vl).cells.toList)) S β ((wr vs (i ()) (a.eval vl).cells.toList).getD (k' ()) undef) v:=by
   (intro v k' hk';rw[hg _ (hoth v k' hk')];have hin:(v,k')∈hs1++(v0,k)::hs2:=by rcases wQ.1 hk' with h'|h';{exact dB _ h'};{exact c9 _ (xI _ h')});exact⟨(hhs v k' hin).1,(hhs v k' hin).2.evo he fun _ _ h=>h⟩
  rcases wQ.1 hk' with h'|h';{exact hold (dB _ h')};{rcases z9.1 h' with e|h';{cases e;rw[hki,hg0];exact⟨hlt,(show Rep w S β _ _ from c2).evo he fun _ _ h=>h⟩};{exact hold (c9 _ h')}}
 {intro j hj;obtain⟨h1,h2⟩:=hrow hj;rw[hg j h2];exact (hrs j h1).evo he fun c hc=>setRow_other w b c _ (by rintro rfl;exact hM.ne j c h1 hc hβ)};{exact fun j j' c hj hj'=>hM.inj j j' c (hrow hj).1 (hrow hj').1};{exact fun j c hj=>hM.ne j c (hrow hj).1};{rintro c (e|⟨j,hj,e⟩);{exact .inl e};{exact .inr ⟨j,(hrow hj).1,e⟩}}
theorem zBF (z:Array Value)(n j:Nat)(hj:j<n)(hz:0<z.size):(madeCells z n).getD j undef=z.getD (j%z.size) undef:=by have:j%z.size<z.size:=vR _ hz;simp[madeCells,hj,getElem!_def,zLI this]
theorem zLX {ps:PS}{o:Oper}{t:TypeId}{l c:Operand}{d:Nat}(hop:o.op=.makeSlice t l c)(hod:o.dst=some d)(hd:d<N){K:PS->Prop}{Km:Act->World->Prop}{Q:Exit->Act->World->Prop}(h:Sim w0 S0 K0 N (zA ps.tmps) ps.objs a w S β) {n b:Nat} {z:List PV} (ht:ty t=.sli n b z) {x y:Unit->Int} (hl:ev (zA ps.tmps) l=.int .i64 x) (hc:ev (zA ps.tmps) c=.int .i64 y) (hR:Room y b) (hM:MkOk x y) (hf:yJ d ps=true) (hz:yV oJ z=true) (hs:K ⟨uH ps.tmps d (.osl d n (fun _=>0) (fun _=>(x ()).toNat)),ps.objs++[(d,.arr n (fun _=>List.replicate (x ()).toNat (x6 z)))]⟩) (hk:∀ ps' a' w' S' β',K ps'->Sim w0 S0 K0 N (zA ps'.tmps) ps'.objs a' w' S' β'->Km a' w'):o.wp Pg a w Km Q:=by
 obtain⟨inf,el,j,zv,h1,h2,h3,h4,h5,h6,h7,h8,h9,h10,h11,h12⟩:=uR ht;have hrl:=h.eval l;have hrc:=h.eval c;rw[hl] at hrl;rw[hc] at hrc;have hlv:=w9 hrl;have hcv:=w9 hrc;have hx0:=hM.lo;have hxy:=hM.hi;have hy0:=hR.lo;have hyb:=hR.hi;have hyle:y ()<=y ()*(b:Int):=by have:y ()*1<=y ()*(b:Int):=Int.mul_le_mul_of_nonneg_left oM hy0;omega
 have hbytes:(j.bytes:Int)*y ()<=281474976710656:=by rw[h8,Int.mul_comm];omega
 have hrun:=run_make (P:=Pg) w t el j zv h4 h5 h6 .i64 .i64 (x ()) (y ()) hx0 hxy hbytes oM;have hsz:(madeCells zv.cells ((y ()).toNat*j.size)).size=(y ()).toNat*n:=by rw[size_madeCells,h7]
 have ld:=uY (w:=w) h.ld.bnd (.cells (madeCells zv.cells ((y ()).toNat*j.size)) el);have hzl:z.length=n:=by rw[h11];simp[h9]
 have hz':=jG (w:=w) (S:=S) (β:=β) zv.cells;rw[<-h11] at hz';have hxn:(x ()).toNat<=(y ()).toNat:=by omega
 have hn:=h.newObj (w':=w.alloc (.cells (madeCells zv.cells ((y ()).toNat*j.size)) el)) (b:=w.heap.size) (o:=.arr n (fun _=>List.replicate (x ()).toNat (x6 z))) hf ld (zV _) (by simp)
  (.inr ⟨w.heap.size,_,el,yQ,heap_alloc_new w _,by rw[hsz];simpa using qE n hxn,fun e he=>by
   rw[zQX he,kB,hzl],fun i k hi hk'=>by
   simp only[lI] at hi;have hlt:i*n+k<(y ()).toNat*n:=by
    calc i*n+k<i*n+n:=by omega
     _=(i+1)*n:=by rw[w7];omega
     _<=_:=qE _ oM
   (have hmod:(i*n+k)%zv.cells.size=k:=by rw[h9,mN,Nat.add_mul_mod_self_right,wO hk']);have hg:(madeCells zv.cells ((y ()).toNat*j.size)).getD (i*n+k) undef=zv.cells.getD k undef:=by rw[zBF _ _ _ (by rw[h7];exact hlt) oM,hmod]
   (have hrep:(List.replicate (x ()).toNat (x6 z)).getD i []=x6 z:=by simp[hi]);rw[hrep,jX]
   have hr:=hz'.2 k oM;have hck:=wV hz k oM;refine⟨?_,?_⟩;{rw[hg];exact (tV hr (nT hck)).evo (ld.evo h.ld.bnd).same (ld.subs h.ld.bnd)}
   ·rw[hg];exact aF hr (zE6 hck)⟩)
 refine jC (w':=w.alloc (.cells (madeCells zv.cells ((y ()).toNat*j.size)) el)) (v:=.slice (some ⟨w.heap.size,0,none⟩) (x ()).toNat (y ()).toNat) ?_ ?_;{simp only[execOp,hop,hlv,hcv,Sem.run_bind,hrun,Result.andThen_ok,Sem.run_pure]}
 ·(rw[hod];have hv:Rep (w.alloc (.cells (madeCells zv.cells ((y ()).toNat*j.size)) el)) S (qF β d (some w.heap.size)) (.slice (some ⟨w.heap.size,0,none⟩) (x ()).toNat (y ()).toNat) (.osl d n (fun _=>0) (fun _=>(x ()).toNat)):=by have:=Rep.osl (w:=w.alloc (.cells (madeCells zv.cells ((y ()).toNat*j.size)) el)) (S:=S) (β:=qF β d (some w.heap.size)) (n:=d) (s:=n) (cap:=(y ()).toNat) (b:=w.heap.size) (o:=fun _=>0) (len:=fun _=>(x ()).toNat) yQ hxn (heap_alloc_new w _) (by rw[hsz,xA];exact zV _);rwa [dN] at this);exact hk _ _ _ _ _ hs (hn.putT' d hd hv)
theorem zH8 {x:Option (List (List PV))}{k s:Nat}{o len:Unit->Nat}(h:zIL x=some (k,s,o,len)):x=some [[.osl k s o len]]:=by unfold zIL at h;split at h;{cases h;rfl};{cases h}
theorem zBI {ps:PS}{o:Oper}{t:TypeId}{len:Nat}{parts:Array (Nat×Operand)}{d:Nat}(hop:o.op=.buildSlice t len parts)(hod:o.dst=some d)(hd:d<N){K:PS->Prop}{Km:Act->World->Prop}{Q:Exit->Act->World->Prop}(h:Sim w0 S0 K0 N (zA ps.tmps) ps.objs a w S β) {b:Nat} {z:List PV} (ht:ty t=.sli 1 b z) (hl:len=1) {k s:Nat} {o' len':Unit->Nat} (hf:rV 1 (uP (ev (zA ps.tmps)) parts.toList) (pD z len)=some [[.osl k s o' len']]) (hkd:xV d (.osl k s o' len')=true) (hfr:yJ d ps=true) (hs:K ⟨uH ps.tmps d (.osl d 1 (fun _=>0) (fun _=>1)),ps.objs++[(d,.mat s (fun _=>[[]]) [(.osl k s o' len',fun _=>0)])]⟩) (hk:∀ ps' a' w' S' β',K ps'->Sim w0 S0 K0 N (zA ps'.tmps) ps'.objs a' w' S' β'->Km a' w'):o.wp Pg a w Km Q:=by
 subst hl;obtain⟨cells',el,hrun,g2,g3,g4⟩:=gP (w:=w) (S:=S) (β:=β) ht h.ld.bnd (ρ:=a.eval) (fun x=>h.eval x) hf oM;have ld:=uY (w:=w) h.ld.bnd (.cells cells' el);have hsz:1<=cells'.size:=by have:=g2.1;simp[kU] at this;omega
 have hc0:Rep w S β (cells'.getD 0 undef) (.osl k s o' len'):=g2.2 0 (by simp[kU]);have hnr:∀ i,¬vP (.mat s (fun _=>[[]]) [(.osl k s o' len',fun _=>0)]) i:=by rintro i ⟨h1,h2⟩;have:=h2 _ _ xD;simp at h1 this;omega
 have hn:=h.newObj (w':=w.alloc (.cells cells' el)) (b:=w.heap.size) (o:=.mat s (fun _=>[[]]) [(.osl k s o' len',fun _=>0)]) hfr ld (zV _) (by simp)
  ⟨.inr ⟨w.heap.size,cells',el,yQ,heap_alloc_new w _,by simpa using hsz,fun v k' hk'=>by simp only[kE,tG] at hk';obtain⟨rfl,rfl⟩:=hk';exact⟨by simp,(hc0.evo (ld.evo h.ld.bnd) (ld.subs h.ld.bnd)).upd hkd⟩,fun i hi=>absurd hi (hnr i)⟩,fun i j b hi=>absurd hi (hnr i),fun i b hi=>absurd hi (hnr i)⟩ hnr
 refine jC (w':=w.alloc (.cells cells' el)) (v:=.slice (some ⟨w.heap.size,0,none⟩) 1 1) ?_ ?_;{simp[execOp,hop,hrun]}
 ·(rw[hod];have hv:Rep (w.alloc (.cells cells' el)) S (qF β d (some w.heap.size)) (.slice (some ⟨w.heap.size,0,none⟩) 1 1) (.osl d 1 (fun _=>0) (fun _=>1)):=by have:=Rep.osl (w:=w.alloc (.cells cells' el)) (S:=S) (β:=qF β d (some w.heap.size)) (n:=d) (s:=1) (cap:=1) (b:=w.heap.size) (o:=fun _=>0) (len:=fun _=>1) yQ (zV _) (heap_alloc_new w _) (by simpa using hsz);rwa [dN] at this);exact hk _ _ _ _ _ hs (hn.putT' d hd hv)
theorem zGS {ps:PS}{o:Oper}{t:TypeId}{len:Nat}{parts:Array (Nat×Operand)}{d:Nat}(hop:o.op=.buildSlice t len parts)(hod:o.dst=some d)(hd:d<N){K:PS->Prop}{Km:Act->World->Prop}{Q:Exit->Act->World->Prop}(h:Sim w0 S0 K0 N (zA ps.tmps) ps.objs a w S β) {n b:Nat} {z:List PV} (ht:ty t=.sli n b z) (hl:len=0) (hp:zHH parts.toList=true) (hfr:yJ d ps=true) (hs:K ⟨uH ps.tmps d (.osl d n (fun _=>0) (fun _=>0)),ps.objs++[(d,.arr n (fun _=>[]))]⟩) (hk:∀ ps' a' w' S' β',K ps'->Sim w0 S0 K0 N (zA ps'.tmps) ps'.objs a' w' S' β'->Km a' w'):o.wp Pg a w Km Q:=by
 subst hl;have hf:rV n (uP (ev (zA ps.tmps)) parts.toList) (pD z 0)=some []:=by
  cases hpl:parts.toList with
  |nil=>rfl| cons x r=>rw[hpl] at hp;cases hp
 obtain⟨cells',el,hrun,g2,g3,g4⟩:=gP (w:=w) (S:=S) (β:=β) ht h.ld.bnd (ρ:=a.eval) (fun x=>h.eval x) hf oM;have ld:=uY (w:=w) h.ld.bnd (.cells cells' el);have hn:=Sim.newNil (ps:=ps) (lg:=false) (n:=d) (s:=n) (els:=fun _=>[]) (h.go ld) hfr rfl;refine jC (w':=w.alloc (.cells cells' el)) (v:=.slice (some ⟨w.heap.size,0,none⟩) 0 0) ?_ ?_;{simp[execOp,hop,hrun]};{rw[hod];exact hk _ _ _ _ _ hs (hn.putT' d hd (.osl0 yQ rfl rfl))}
theorem zBH {ps:PS}{o:Oper}{t:TypeId}{len:Nat}{parts:Array (Nat×Operand)}{d:Nat}(hop:o.op=.buildSlice t len parts)(hod:o.dst=some d)(hd:d<N){K:PS->Prop}{Km:Act->World->Prop}{Q:Exit->Act->World->Prop}(h:Sim w0 S0 K0 N (zA ps.tmps) ps.objs a w S β) {n b:Nat} {z:List PV} (ht:ty t=.sli n b z) {els:List (List PV)} (hf:rV n (uP (ev (zA ps.tmps)) parts.toList) (pD z len)=some els) (hle:len*n<=1000) (hok:tC els=true) (hfr:yJ d ps=true) (hs:K ⟨uH ps.tmps d (.osl d n (fun _=>0) (fun _=>(yI els).length)),ps.objs++[(d,.arr n (fun _=>yI els))]⟩) (hk:∀ ps' a' w' S' β',K ps'->Sim w0 S0 K0 N (zA ps'.tmps) ps'.objs a' w' S' β'->Km a' w'):o.wp Pg a w Km Q:=by
 obtain⟨cells',el,hrun,g2,g3,g4⟩:=gP (w:=w) (S:=S) (β:=β) ht h.ld.bnd (ρ:=a.eval) (fun x=>h.eval x) hf hle;have ld:=uY (w:=w) h.ld.bnd (.cells cells' el);have hsz:cells'.size=len*n:=by rw[g2.1,j3 n _ g3,g4]
 have hdl:(yI els).length=len:=by rw[bF,g4]
 have hn:=h.newObj (w':=w.alloc (.cells cells' el)) (b:=w.heap.size) (o:=.arr n (fun _=>yI els)) hfr ld (zV _) (by simp)
  (.inr ⟨w.heap.size,cells',el,yQ,heap_alloc_new w _,by rw[hsz];show (yI els).length*n<=_;rw[hdl];exact zV _,fun e he=>zAH els n g3 e he,fun i k hi hk'=>by
   (have hi':i<els.length:=by rw[<-bF];exact hi);have hlen:(els.getD i []).length=n:=g3 _ (by rw[yC,wN hi'];exact List.getElem_mem _)
   have hfl:i*n+k<(kU els).length:=by
    rw[j3 n _ g3]
    calc i*n+k<i*n+n:=by omega
     _=(i+1)*n:=by rw[w7];omega
     _<=_:=qE _ oM
   have hr:=g2.2 (i*n+k) hfl;rw[l9 n els g3 i k hi' hk'] at hr;have hck:=iD els hok i k hi' oM;refine⟨?_,?_⟩;{show RepD _ _ _ (((yI els).getD i []).getD k _);rw[lZ els i hi',jX];exact (tV hr (nT hck)).evo (ld.evo h.ld.bnd).same (ld.subs h.ld.bnd)}
   ·exact aF hr (zE6 hck)⟩)
 refine jC (w':=w.alloc (.cells cells' el)) (v:=.slice (some ⟨w.heap.size,0,none⟩) len len) ?_ ?_;{simp[execOp,hop,hrun]}
 ·(rw[hod];have hv:Rep (w.alloc (.cells cells' el)) S (qF β d (some w.heap.size)) (.slice (some ⟨w.heap.size,0,none⟩) len len) (.osl d n (fun _=>0) (fun _=>(yI els).length)):=by have:=Rep.osl (w:=w.alloc (.cells cells' el)) (S:=S) (β:=qF β d (some w.heap.size)) (n:=d) (s:=n) (cap:=len) (b:=w.heap.size) (o:=fun _=>0) (len:=fun _=>(yI els).length) yQ (by rw[hdl];exact zV _) (heap_alloc_new w _) (by rw[hsz,xA];exact zV _);rw[dN] at this;exact hdl ▸ this);exact hk _ _ _ _ _ hs (hn.putT' d hd hv)
end
end Go.Proofs.YtfainocfaddbdaaGreat
