/- A part of the proof: PmK. -/
import Derived.Test.YtaeaffgjdcigoaaGreatW07
set_option linter.all false
namespace Go.Proofs.YtaeaffgjdcigoaaGreat
open Go
section
variable {w0:World} {S0:Nat->Nat->Prop} {K0:Nat->Prop} {N:Cx} {τ:Nat->PV} {objs:List (Nat×Obj')} {a:Act} {w w':World} {S S':Nat->Nat->Prop} {β:Bm}
theorem w7 {ps:PS}(h:Sim w0 S0 K0 N (zE ps.tmps) ps.objs a w S β)(d:Option Nat)(hd:∀ t,d=some t->t<N){v:Value}{x:PV}(hv:Rep w S β v x):Sim w0 S0 K0 N (zE (put ps d x).tmps) (put ps d x).objs (a.put d v) w S β:=by rw[wV,fY];exact h.put d hd hv
theorem Sim.putT' {ps:PS}(h:Sim w0 S0 K0 N (zE ps.tmps) objs a w S β)(d:Nat)(hd:d<N){v:Value}{x:PV}(hv:Rep w S β v x):Sim w0 S0 K0 N (zE (uA ps.tmps d x)) objs (a.put (some d) v) w S β:=by
 have:=h.put (some d) (λt e=>by grind) hv;have e:upd (zE ps.tmps) (some d) x=zE (uA ps.tmps d x):=by funext t;simp[upd,gL]
 grind
theorem Sim.newObj {ps:PS}(h:Sim w0 S0 K0 N (zE ps.tmps) ps.objs a w S β){n b:Nat}{o:Obj'}(hf:yQ n ps=true)(l:Leads w S u7 w' S)(hb:w.heap.size<=b)(hb':b<w'.heap.size) (hat:ObjAt w' S (fO β n (some b)) n o) (hr:∀ i,¬jQ o i:=by intro _ hi;exact hi):Sim w0 S0 K0 N (zE ps.tmps) (ps.objs++[(n,o)]) a w' S (fO β n (some b)):=by
 simp only[yQ,yP] at hf;have hmem:∀ {m x},(m,x)∈ps.objs++[(n,o)]->((m,x)∈ps.objs/\m≠n)\/(m=n/\x=o):=by intro m x hm;simp only[uX,kJ] at hm;rcases hm with hm|hm;{exact .inl ⟨hm,(xY hf.2 hm).1⟩};grind
 have hg:=h.go l;refine⟨h.dfr,h.sz,hg.ld,λt=>(hg.tmp t).upd (qK hf.1 t),⟨?_,?_,?_,?_⟩,?_,?_⟩;{rw[gP,W6];refine⟨h.obj.nd,by simp,?_⟩;intro x hx y hy e;simp at hy;subst hy e;obtain⟨⟨m,o⟩,h1,rfl⟩:=yZ.1 hx;exact (xY hf.2 h1).1 rfl};{intro m x hm;rcases hmem hm with⟨h1,h2⟩|⟨rfl,rfl⟩;{exact (hg.obj.at_ m x h1).upd h2 (xY hf.2 h1).2};omega};{intro m x c hm hβ;rcases hmem hm with⟨h1,h2⟩|⟨rfl,rfl⟩;{exact hg.obj.un m x c h1 (vN h2 hβ)};{have hβ:=xC hr hβ;rw[xG] at hβ;cases hβ;exact⟨λi hS=>by have:=h.ld.bnd b i hS;omega,hb'⟩}};{intro m x m' x' c hm hm' hβ hβ';rcases hmem hm with⟨h1,h2⟩|⟨rfl,rfl⟩;{rcases hmem hm' with⟨h3,h4⟩|⟨rfl,rfl⟩;{exact hg.obj.inj _ _ _ _ c h1 h3 (vN h2 hβ) (vN h4 hβ')};{have hβ':=xC hr hβ';rw[xG] at hβ';cases hβ';have:=(h.obj.un m x b h1 (vN h2 hβ)).2;omega}};{rcases hmem hm' with⟨h3,h4⟩|⟨rfl,rfl⟩;{have hβ:=xC hr hβ;rw[xG] at hβ;cases hβ;have:=(h.obj.un m' x' b h3 (vN h4 hβ')).2;omega};{rfl}}};{intro m x c hm hβ;rcases hmem hm with⟨h1,h2⟩|⟨rfl,rfl⟩;{exact h.own m x c h1 (vN h2 hβ)};{have hβ:=xC hr hβ;rw[xG] at hβ;cases hβ;have:=h.ld.size;omega}};{intro m x hm hb2;rcases hmem hm with⟨h1,h2⟩|⟨rfl,rfl⟩;{rw[uD h2];exact h.keep m x h1 hb2};{have:=jL hf.2;omega}}
theorem KF {lg:Bool}{n s:Nat}{els:Unit->List (List D)}(h:RowAt w S β n s els):ObjAt w S β n (fH lg s els):=by cases lg <;> exact h
theorem XV (lg:Bool)(s:Nat)(els:Unit->List (List D))(i:Nat):¬jQ (fH lg s els) i:=by cases lg <;> (intro hi;exact hi)
theorem SH (lg:Bool)(s:Nat)(els:Unit->List (List D)):Vj (fH lg s els)=some (s,els):=by cases lg <;> rfl
theorem Sim.newNil {ps:PS}(h:Sim w0 S0 K0 N (zE ps.tmps) ps.objs a w S β){lg:Bool}{n s:Nat}{els:Unit->List (List D)}(hf:yQ n ps=true)(he:els ()=[]):Sim w0 S0 K0 N (zE ps.tmps) (ps.objs++[(n,fH lg s els)]) a w S (fO β n none):=h.freshO hf (λβ' h=>KF (.inl ⟨h,he⟩)) (XV lg s els)
theorem H4 {t:Nat}(h:(ty t).isNo=false):∃ i zv,Pg.info? t=some i/\i.zero=some zv/\RepL w S β zv.cells (ty t).zero:=by
 cases ht:ty t with
 |no=>grind [Ty.isNo]| sc z =>
  obtain⟨i,d,zv,h1,h2,h3,h4,h5,h6,h7,_⟩:=Xp ht;refine⟨i,zv,h1,h4,?_⟩;rw[h6,h7];exact jM #[zv]
 |st n fs z =>
  obtain⟨i,fields,zs,h1,h2,h3,h4,h5,h6,h7,_⟩:=Xo ht;refine⟨i,_,h1,h3,?_⟩;rw[h7];exact jM zs
 |arr len n ag z =>
  obtain⟨i,e,zs,h1,h2,h3,h4,h5,h6,h7,h8,h8',h8'',h9⟩:=iJ ht;refine⟨i,_,h1,h3,?_⟩;rw[h9];exact jM zs
 |sli n b z =>
  obtain⟨i,e,j,zv,h1,h2,h3,_⟩:=qX ht;exact⟨i,_,h1,h3,jM #[.slice none 0 0]⟩
theorem oX {o:Oper}{d:Nat}(hod:o.dst=some d)(hd:d<N){cs:List PV}{ps:PS}{K:PS->Prop}{Km:Act->World->Prop}{Q:Exit->Act->World->Prop}(h:Sim w0 S0 K0 N (zE ps.tmps) ps.objs a w S β)(hs:ZO d cs ps K) {cells:Array Value} {T:TypeId} (hr:RepL w S β cells cs) (hrun:(execOp a.eval o).run Pg w=.ok (.value (.pointer (some ⟨w.heap.size,0,none⟩))) (w.alloc (.cells cells T))) (hk:∀ ps' a' w' S' β',K ps'->Sim w0 S0 K0 N (zE ps'.tmps) ps'.objs a' w' S' β'->Km a' w') (hcs:wN d cs=true):o.wp Pg a w Km Q:=by
 unfold ZO at hs;cases hf:yQ d ps with
 |false=>grind| true =>
  simp only[hf,cond_true] at hs;have l:=qI (w:=w) h.ld.bnd (.cells cells T);have hn:=h.newObj (w':=w.alloc (.cells cells T)) (b:=w.heap.size) (o:=.box cs) hf l (yD _) (by simp) ⟨w.heap.size,cells,T,xG,heap_alloc_new w _,hr.1,λj hj =>
   ((hr.2 j hj).evo (l.evo h.ld.bnd) (l.subs h.ld.bnd)).upd (xV rfl hcs j)⟩
  refine jC hrun ?_;rw[hod];exact hk _ _ _ _ _ hs (hn.putT' d hd (.ptr xG))
def wr (cur:Array Value) (pos:Nat) (news:List Value):Array Value:=(cur.toList.take pos++news++cur.toList.drop (pos+news.length)).toArray
theorem Uy {cur:Array Value}{pos:Nat}{news:List Value}(h:pos+news.length<=cur.size):(wr cur pos news).size=cur.size:=by grind [wr]
theorem YN {cur:Array Value}{pos:Nat}{news:List Value}(h:pos+news.length<=cur.size)(j:Nat):(wr cur pos news).getD j undef=if pos<=j/\j<pos+news.length then news.getD (j-pos) undef else cur.getD j undef:=by
 have hl:(cur.toList.take pos).length=pos:=by grind
 simp only[wr,Fl,List.getElem?_toArray,gE];congr 1;by_cases h1:j<pos;{grind};{by_cases h2:j<pos+news.length;{grind};grind}
theorem rD {b:Nat}{vs vs':Array Value}{T:TypeId}(hS:∀ i,S b i->vs'[i]?=vs[i]?)(hw:w.heap[b]?=some (.cells vs T (0,0)))(hsz:vs'.size=vs.size):Evo S w (w.setRow b vs') where
 same c i hc:=by by_cases e:c=b;{subst e;simp only[World.cell?,setRow_heap w c vs vs' T (0,0) hw,hw];grind};grind [cT,setRow_other]
 shape c us U hc:=by by_cases e:c=b;{grind [setRow_heap]};{exact⟨us,by grind [setRow_other],rfl⟩}
theorem RowAt.evo {n s:Nat}{els:Unit->List (List D)}(h:RowAt w S β n s els)(he:Evo S w w')(hb:∀ b,β n=some b->w'.heap[b]?=w.heap[b]?):RowAt w' S β n s els:=by rcases h with h|⟨b,vs,T,h1,h2,h3,h4,h5⟩;{exact .inl h};{exact .inr ⟨b,vs,T,h1,(hb b h1).trans h2,h3,h4,λi j hi hj=>⟨(h5 i j hi hj).1.evo he.same (λ_ _ h=>h),(h5 i j hi hj).2⟩⟩}
theorem RowIn.evo {ob:Option Nat}{v:Value}{s:Nat}{els:List (List D)}(h:RowIn w S ob v s els)(he:Evo S w w')(hb:∀ b,ob=some b->w'.heap[b]?=w.heap[b]?):RowIn w' S ob v s els:=by rcases h with h|⟨b,cap,us,T,h1,h2,h3,h4,h5,h6,h7⟩;{exact .inl h};{exact .inr ⟨b,cap,us,T,h1,h2,h3,(hb b h1).trans h4,h5,h6,λi j hi hj=>⟨(h7 i j hi hj).1.evo he.same (λ_ _ h=>h),(h7 i j hi hj).2⟩⟩}
theorem ObjAt.evo {n:Nat}{o:Obj'}(h:ObjAt w S β n o)(he:Evo S w w')(hbo:∀ b,Own β n o b->w'.heap[b]?=w.heap[b]?):ObjAt w' S β n o:=by
 have hb:∀ b,β n=some b->w'.heap[b]?=w.heap[b]?:=λb h=>hbo b (.inl h);cases o with
 |box cs =>
  obtain⟨b,vs,T,h1,h2,h3,h4⟩:=h;exact⟨b,vs,T,h1,(hb b h1).trans h2,h3,λj hj=>(h4 j hj).evo he (λ_ _ h=>h)⟩
 |arr s els=>exact RowAt.evo h he hb| log s els=>exact RowAt.evo h he hb| lent s els=>exact⟨RowAt.evo h.1 he hb,h.2⟩| mp t k=>exact MapAt.to h rfl hb| mat s rows hs =>
  obtain⟨hp,h5,h6⟩:=h;refine⟨?_,h5,h6⟩;rcases hp with hp|⟨b,vs,T,h1,h2,h3,h4,h7⟩;{grind};{exact .inr ⟨b,vs,T,h1,(hb b h1).trans h2,h3,λv k hk=>⟨(h4 v k hk).1,(h4 v k hk).2.evo he (λ_ _ h=>h)⟩,λi hi=>(h7 i hi).evo he λb hb'=>hbo b (.inr ⟨i,hi,hb'⟩)⟩}
theorem Sim.writeG (h:Sim w0 S0 K0 N τ objs a w S β){n b:Nat}{o0 o:Obj'}{vs vs':Array Value}{T:TypeId}(hm:(n,o0)∈objs)(hnp:∀ i,¬gK o0 i)(hβ:β n=some b)(hw:w.heap[b]?=some (.cells vs T (0,0)))(hsz:vs'.size=vs.size) (hat:ObjAt (w.setRow b vs') S β n o) (hown:∀ c,Own β n o c->Own β n o0 c):Sim w0 S0 K0 N τ (Go.Proofs.YtaeaffgjdcigoaaGreat.setO objs n o) a (w.setRow b vs') S β:=by
 obtain⟨hnS,hlt⟩:=h.obj.un n o0 b hm (.inl hβ);have he:=rD (w:=w) (vs':=vs') (λi hS=>absurd (hnS i hS) (hnp i)) hw hsz;have hn:n∈objs.map Prod.fst:=yZ.2 ⟨_,hm,rfl⟩;have key0:∀ {m x},(m,x)∈Go.Proofs.YtaeaffgjdcigoaaGreat.setO objs n o->∃ x',(m,x')∈objs:=by
  intro m x hx;rcases x6 h.obj.nd hn hx with⟨rfl,rfl⟩|⟨_,h2⟩
  all_goals grind
 have key:∀ {m x c},(m,x)∈Go.Proofs.YtaeaffgjdcigoaaGreat.setO objs n o->Own β m x c->∃ x',(m,x')∈objs/\Own β m x' c:=by
  intro m x c hx hc;rcases x6 h.obj.nd hn hx with⟨rfl,rfl⟩|⟨_,h2⟩
  all_goals grind
 refine⟨h.dfr,h.sz,?_,λt=>(h.tmp t).evo he (λ_ _ h=>h),⟨by rw[qM hn];exact h.obj.nd,?_,?_,?_⟩,?_,?_⟩
 ·refine⟨by simpa using h.ld.size,h.ld.os,h.ld.tape,h.ld.output,λc hc hk=>?_,λc us U hc=>?_,λc i hS=>by simpa using h.ld.bnd c i hS,h.ld.sub,h.ld.old⟩
  ·rw[setRow_other w b c vs' ?_];{exact h.ld.same c hc hk}
   ·rintro rfl;rcases h.own n o0 c hm (.inl hβ) with h'|h'
    all_goals grind
  {obtain⟨us',e1,e2⟩:=h.ld.shape c us U hc;obtain⟨us'',e3,e4⟩:=he.shape c us' U e1;grind}
 {intro m x hx;rcases x6 h.obj.nd hn hx with⟨rfl,rfl⟩|⟨h1,h2⟩;{exact hat};{refine (h.obj.at_ m x h2).evo he λc hc=>setRow_other w b c vs' ?_;rintro rfl;exact h1 (h.obj.inj _ _ _ _ c h2 hm hc (.inl hβ))}};{intro m x c hx hc;rcases x6 h.obj.nd hn hx with⟨rfl,rfl⟩|⟨_,h2⟩;{have:=h.obj.un _ o0 c hm (hown c hc);simp_all};{simpa using h.obj.un m x c h2 hc}};{intro m x m' x' c hx hx' hc hc';obtain⟨y,h1,g1⟩:=key hx hc;obtain⟨y',h2,g2⟩:=key hx' hc';exact h.obj.inj _ _ _ _ c h1 h2 g1 g2};{intro m x c hx hc;obtain⟨y,h1,g1⟩:=key hx hc;exact h.own m y c h1 g1};{intro m x hx hb2;obtain⟨y,h1⟩:=key0 hx;exact h.keep m y h1 hb2}
theorem Sim.write (h:Sim w0 S0 K0 N τ objs a w S β){n b:Nat}{o0 o:Obj'}{vs vs':Array Value}{T:TypeId}(hm:(n,o0)∈objs)(hnp:∀ i,¬gK o0 i)(hβ:β n=some b)(hw:w.heap[b]?=some (.cells vs T (0,0)))(hsz:vs'.size=vs.size) (hat:ObjAt (w.setRow b vs') S β n o) (hr:∀ i,¬jQ o i:=by intro _ hi;exact hi):Sim w0 S0 K0 N τ (Go.Proofs.YtaeaffgjdcigoaaGreat.setO objs n o) a (w.setRow b vs') S β :=
 h.writeG hm hnp hβ hw hsz hat λc hc=>.inl (xC hr hc)
theorem Yn {t:Nat}(hno:(ty t).isNo=false){b o:Nat}{v:Value}{cur:Array Value}{T:TypeId}(hb:w.heap[b]?=some (.cells cur T (0,0)))(hsz:v.cells.size=(ty t).cells)(hfit:o+v.cells.size<=cur.size) (h1:∀ u∈v.cells.toList,u.oneCell'=true):(Instr.storeAt t (.pointer (some ⟨b,o,none⟩)) v).run Pg w=.ok () (w.setRow b (wr cur o v.cells.toList)):=by
 obtain⟨i,d,hi,hu,hs,ha⟩:=UH hno;have hst:=run_storeCells_at (P:=Pg) b o T v.cells.toList 0 cur w hb oM h1;simp only[Vw] at hst;have e:v.cells.size=i.size:=by omega
 simp only[Instr.storeAt,Instr.sureAddr,storeVar,Sem.run_bind,Sem.run_pure,Result.andThen_ok,uM hi,e,ne_eq,not_true_eq_false,if_false,hst];rfl
theorem eD {x:PV}{v:Value}(h:Rep w S β v x)(hp:yT t9 (yS x)=true):gY x=true:=by
 cases x with
 |agg cs=>rfl| _=>simpa[yS,yT,gY] using hp
theorem Ar:∀ {l:List PV},yT Zm l=true->yT t9 l=true
 |[],_=>rfl| c::l,h=>by simp only[yT,yP] at h ⊢;exact⟨WK h.1,Ar h.2⟩
theorem VX {x:PV}{v:Value}(h:Rep w S β v x)(hp:yT t9 (yS x)=true):∀ u∈v.cells.toList,u.oneCell'=true:=by
 obtain⟨h1,h2⟩:=fL h (eD h hp);intro u hu;obtain⟨j,hj,rfl⟩:=List.getElem_of_mem hu;have hj':j<(yS x).length:=by grind
 have hv:j<v.cells.size:=by omega
 have:=s3 (h2 j hj') (wY hp j hj');simp_all
theorem rX (v:Value)(j:Nat):v.cells.toList.getD j undef=v.cells.getD j undef:=by simp
theorem Fw {ps:PS}{o:Oper}{t:TypeId}{ad vl:Operand}(hop:o.op=.store t ad vl)(hd:∀ t,o.dst=some t->t<N){K:PS->Prop}{Km:Act->World->Prop}{Q:Exit->Act->World->Prop}(h:Sim w0 S0 K0 N (zE ps.tmps) ps.objs a w S β) {n off:Nat} {cs:List PV} (ha:ev (zE ps.tmps) ad=.ptr n off) (ho:yN ps.objs n=some (.box cs)) (hl:(yS (ev (zE ps.tmps) vl)).length=(ty t).cells) (hle:off+(ty t).cells<=cs.length) (h0:0<(ty t).cells) (hok:yT t9 (yS (ev (zE ps.tmps) vl))=true) (hs:K (put ⟨ps.tmps,setO ps.objs n (.box (uW cs off (yS (ev (zE ps.tmps) vl))))⟩ o.dst .any)) (hk:∀ ps' a' w' S' β',K ps'->Sim w0 S0 K0 N (zE ps'.tmps) ps'.objs a' w' S' β'->Km a' w'):o.wp Pg a w Km Q:=by
 have hmem:=xU ho;have hra:=h.eval ad;have hrv:=h.eval vl;rw[ha] at hra;obtain⟨b,hβ,hv⟩:=kM hra;obtain⟨b',vs,T,hβ',hb,hsz,hrr⟩:=U8 h ho;rw[hβ] at hβ';cases hβ';have hno:(ty t).isNo=false:=by cases hty:ty t <;> simp[hty,Ty.cells,Ty.isNo] at h0 ⊢
 have hp:=eD hrv hok;obtain⟨c1,c2⟩:=fL hrv hp;have hfit:off+(a.eval vl).cells.toList.length<=vs.size:=by grind
 have hrun:=Yn (w:=w) (b:=b) (o:=off) hno hb oM oM (VX hrv hok);have hw:=Uy hfit;have hnS:=(h.obj.un n _ b hmem (.inl hβ)).1;have he:=rD (w:=w) (λi hS=>absurd (hnS i hS) id) hb hw;have hsim:=h.write (o:=.box (uW cs off (yS (ev (zE ps.tmps) vl)))) hmem (λi=>id) hβ hb hw ⟨b,_,T,hβ,setRow_heap w b vs _ T _ hb,by grind [kL],λj hj=>by
  (rw[kL _ _ _ oM] at hj;rw[YN hfit,sK _ _ _ oM];have e:(a.eval vl).cells.toList.length=(yS (ev (zE ps.tmps) vl)).length:=by omega);rw[e]
  by_cases hr:off<=j/\j<off+(yS (ev (zE ps.tmps) vl)).length;{rw[if_pos hr,if_pos hr,rX];exact (c2 (j-off) oM).evo he (λ_ _ h=>h)}
  ·rw[if_neg hr,if_neg hr];exact (hrr j hj).evo he (λ_ _ h=>h)⟩
 refine Y8 (w':=w.setRow b (wr vs off (a.eval vl).cells.toList)) (by simp only[execOp,hop,hv,Sem.run_bind,hrun,Result.andThen_ok,Sem.run_pure]) ?_;exact hk _ _ _ _ _ hs (w7 (ps:=⟨ps.tmps,_⟩) hsim o.dst hd (xX _))
theorem K7 (l:List (List D))(i k:Nat)(x:List D)(hi:i<l.length):(l.set i x).getD k []=if i=k then x else l.getD k []:=by grind
theorem Fx {ps:PS}{o:Oper}{t:TypeId}{ad vl:Operand}(hop:o.op=.store t ad vl)(hd:∀ t,o.dst=some t->t<N){K:PS->Prop}{Km:Act->World->Prop}{Q:Exit->Act->World->Prop}(h:Sim w0 S0 K0 N (zE ps.tmps) ps.objs a w S β) {n s off:Nat} {i:Unit->Nat} {els:Unit->List (List D)} (ha:ev (zE ps.tmps) ad=.aptr n s i off) (ho:yN ps.objs n=some (.arr s els)) (hl:(yS (ev (zE ps.tmps) vl)).length=(ty t).cells) (hle:off+(ty t).cells<=s) (h0:0<(ty t).cells) (hok:yT Zm (yS (ev (zE ps.tmps) vl))=true) (hs:ElOk s els i (λc=>K (put ⟨ps.tmps,setO ps.objs n (.arr s (λ_=>(els ()).set (i ()) (xT (uW c off (yS (ev (zE ps.tmps) vl))))))⟩ o.dst .any))) (hk:∀ ps' a' w' S' β',K ps'->Sim w0 S0 K0 N (zE ps'.tmps) ps'.objs a' w' S' β'->Km a' w'):o.wp Pg a w Km Q:=by
 have hmem:=xU ho;have hra:=h.eval ad;have hrv:=h.eval vl;rw[ha] at hra;obtain⟨c,hcf,hcl,hck,hK⟩:=hs.h;have hlt:i ()<(els ()).length:=by grind
 obtain⟨b,hβ,hv⟩:=jK hra;rcases h.obj.at_ n _ hmem with⟨hn,he0⟩|⟨b',vs,T,hβ',hb,hsz,hwid,hrr⟩;{grind};rw[hβ] at hβ';cases hβ'
 have hno:(ty t).isNo=false:=by cases hty:ty t <;> simp[hty,Ty.cells,Ty.isNo] at h0 ⊢
 have hokC:=Ar hok;have hp:=eD hrv hokC;obtain⟨c1,c2⟩:=fL hrv hp;have hin:i ()*s+s<=(els ()).length*s:=by
  calc i ()*s+s=(i ()+1)*s:=by grind
   _<=_:=kG _ hlt
 have hfit:i ()*s+off+(a.eval vl).cells.toList.length<=vs.size:=by grind
 have hrun:=Yn (w:=w) (b:=b) (o:=i ()*s+off) hno hb oM oM (VX hrv hokC);have hw:=Uy hfit;have hnS:=(h.obj.un n _ b hmem (.inl hβ)).1;have he:=rD (w:=w) (λi hS=>absurd (hnS i hS) id) hb hw;have hg:(els ()).getD (i ()) []=xT c:=by grind
 have hsim:=h.write (o:=.arr s (λ_=>(els ()).set (i ()) (xT (uW c off (yS (ev (zE ps.tmps) vl)))))) hmem (λi=>id) hβ hb hw (.inr ⟨b,_,T,hβ,setRow_heap w b vs _ T _ hb,by grind,λe hm=>by
  rcases List.mem_or_eq_of_mem_set hm with hm|rfl;{grind};grind [kH,kL],λk j hkl hj=>by
  (simp only[List.length_set] at hkl;rw[YN hfit,K7 _ _ _ _ hlt];have e:(a.eval vl).cells.toList.length=(yS (ev (zE ps.tmps) vl)).length:=by omega);rw[e]
  by_cases hki:i ()=k
  ·subst hki;rw[if_pos rfl,j4,sK _ _ _ oM];by_cases hr:off<=j/\j<off+(yS (ev (zE ps.tmps) vl)).length
   ·(rw[if_pos oM,if_pos hr,rX];have e2:i ()*s+j-(i ()*s+off)=j-off:=by omega);rw[e2]
    (have hj2:j-off<(yS (ev (zE ps.tmps) vl)).length:=by omega);exact⟨(mQ (c2 (j-off) hj2) (lL (wY hok _ hj2))).evo he.same (λ_ _ h=>h),s3 (c2 (j-off) hj2) (WK (wY hok _ hj2))⟩
   {rw[if_neg oM,if_neg hr];have:=hrr (i ()) j hlt hj;rw[hg,j4] at this;exact⟨this.1.evo he.same (λ_ _ h=>h),this.2⟩}
  ·(rw[if_neg hki];have hout:¬(i ()*s+off<=k*s+j/\k*s+j<i ()*s+off+(yS (ev (zE ps.tmps) vl)).length):=by rcases Nat.lt_or_gt_of_ne hki with hlt'|hgt;{have:(i ()+1)*s<=k*s:=kG _ hlt';grind};{have:(k+1)*s<=i ()*s:=kG _ hgt;grind});rw[if_neg hout];have:=hrr k j hkl hj;exact⟨this.1.evo he.same (λ_ _ h=>h),this.2⟩⟩)
 refine Y8 (w':=w.setRow b (wr vs (i ()*s+off) (a.eval vl).cells.toList)) (by simp only[execOp,hop,hv,Sem.run_bind,hrun,Result.andThen_ok,Sem.run_pure]) ?_;exact hk _ _ _ _ _ hK (w7 (ps:=⟨ps.tmps,_⟩) hsim o.dst hd (xX _))
theorem Wg (z:Array Value)(n j:Nat)(hj:j<n)(hz:0<z.size):(madeCells z n).getD j undef=z.getD (j%z.size) undef:=by have:j%z.size<z.size:=vK _ hz;simp[madeCells,hj,getElem!_def,JH this]
theorem Hv {ps:PS}{o:Oper}{t:TypeId}{l c:Operand}{d:Nat}(hop:o.op=.makeSlice t l c)(hod:o.dst=some d)(hd:d<N){K:PS->Prop}{Km:Act->World->Prop}{Q:Exit->Act->World->Prop}(h:Sim w0 S0 K0 N (zE ps.tmps) ps.objs a w S β) {n b:Nat} {z:List PV} (ht:ty t=.sli n b z) {x y:Unit->Int} (hl:ev (zE ps.tmps) l=.int .i64 x) (hc:ev (zE ps.tmps) c=.int .i64 y) (hR:Room y b) (hM:MkOk x y) (hf:yQ d ps=true) (hz:yT Zm z=true) (hs:K ⟨uA ps.tmps d (.osl d n (λ_=>0) (λ_=>(x ()).toNat)),ps.objs++[(d,.arr n (λ_=>List.replicate (x ()).toNat (xT z)))]⟩) (hk:∀ ps' a' w' S' β',K ps'->Sim w0 S0 K0 N (zE ps'.tmps) ps'.objs a' w' S' β'->Km a' w'):o.wp Pg a w Km Q:=by
 obtain⟨inf,el,j,zv,h1,h2,h3,h4,h5,h6,h7,h8,h9,h10,h11,h12⟩:=qX ht;have hrl:=h.eval l;have hrc:=h.eval c;rw[hl] at hrl;rw[hc] at hrc;have hlv:=vY hrl;have hcv:=vY hrc;have hx0:=hM.lo;have hxy:=hM.hi;have hy0:=hR.lo;have hyb:=hR.hi;have hyle:y ()<=y ()*(b:Int):=by have:y ()*1<=y ()*(b:Int):=Int.mul_le_mul_of_nonneg_left oM hy0;omega
 have hbytes:(j.bytes:Int)*y ()<=281474976710656:=by grind
 have hrun:=run_make (P:=Pg) w t el j zv h4 h5 h6 .i64 .i64 (x ()) (y ()) hx0 hxy hbytes oM;have hsz:(madeCells zv.cells ((y ()).toNat*j.size)).size=(y ()).toNat*n:=by rw[size_madeCells,h7]
 have ld:=qI (w:=w) h.ld.bnd (.cells (madeCells zv.cells ((y ()).toNat*j.size)) el);have hzl:z.length=n:=by grind
 have hz':=jM (w:=w) (S:=S) (β:=β) zv.cells;rw[<-h11] at hz';have hxn:(x ()).toNat<=(y ()).toNat:=by omega
 have hn:=h.newObj (w':=w.alloc (.cells (madeCells zv.cells ((y ()).toNat*j.size)) el)) (b:=w.heap.size) (o:=.arr n (λ_=>List.replicate (x ()).toNat (xT z))) hf ld (yD _) (by simp)
  (.inr ⟨w.heap.size,_,el,xG,heap_alloc_new w _,by rw[hsz];simpa using kG n hxn,λe he=>by
   rw[List.eq_of_mem_replicate he,kH,hzl],λi k hi hk'=>by
   simp only[Po] at hi;have hlt:i*n+k<(y ()).toNat*n:=by
    calc i*n+k<i*n+n:=by omega
     _=(i+1)*n:=by grind
     _<=_:=kG _ oM
   (have hmod:(i*n+k)%zv.cells.size=k:=by rw[h9,YE,Nat.add_mul_mod_self_right,kE hk']);have hg:(madeCells zv.cells ((y ()).toNat*j.size)).getD (i*n+k) undef=zv.cells.getD k undef:=by grind [Wg]
   (have hrep:(List.replicate (x ()).toNat (xT z)).getD i []=xT z:=by simp[hi]);rw[hrep,j4]
   have hr:=hz'.2 k oM;have hck:=wY hz k oM;refine⟨?_,?_⟩;{rw[hg];exact (mQ hr (lL hck)).evo (ld.evo h.ld.bnd).same (ld.subs h.ld.bnd)};grind [s3,WK]⟩)
 refine jC (w':=w.alloc (.cells (madeCells zv.cells ((y ()).toNat*j.size)) el)) (v:=.slice (some ⟨w.heap.size,0,none⟩) (x ()).toNat (y ()).toNat) ?_ ?_;{simp only[execOp,hop,hlv,hcv,Sem.run_bind,hrun,Result.andThen_ok,Sem.run_pure]}
 ·(rw[hod];have hv:Rep (w.alloc (.cells (madeCells zv.cells ((y ()).toNat*j.size)) el)) S (fO β d (some w.heap.size)) (.slice (some ⟨w.heap.size,0,none⟩) (x ()).toNat (y ()).toNat) (.osl d n (λ_=>0) (λ_=>(x ()).toNat)):=by have:=Rep.osl (w:=w.alloc (.cells (madeCells zv.cells ((y ()).toNat*j.size)) el)) (S:=S) (β:=fO β d (some w.heap.size)) (n:=d) (s:=n) (cap:=(y ()).toNat) (b:=w.heap.size) (o:=λ_=>0) (len:=λ_=>(x ()).toNat) xG hxn (heap_alloc_new w _) (by grind);grind);exact hk _ _ _ _ _ hs (hn.putT' d hd hv)
theorem QK {ps:PS}{o:Oper}{t:TypeId}{len:Nat}{parts:Array (Nat×Operand)}{d:Nat}(hop:o.op=.buildSlice t len parts)(hod:o.dst=some d)(hd:d<N){K:PS->Prop}{Km:Act->World->Prop}{Q:Exit->Act->World->Prop}(h:Sim w0 S0 K0 N (zE ps.tmps) ps.objs a w S β) {n b:Nat} {z:List PV} (ht:ty t=.sli n b z) (hl:len=0) (hp:U9 parts.toList=true) (hfr:yQ d ps=true) (hs:K ⟨uA ps.tmps d (.osl d n (λ_=>0) (λ_=>0)),ps.objs++[(d,.arr n (λ_=>[]))]⟩) (hk:∀ ps' a' w' S' β',K ps'->Sim w0 S0 K0 N (zE ps'.tmps) ps'.objs a' w' S' β'->Km a' w'):o.wp Pg a w Km Q:=by
 subst hl;have hf:rW n (vO (ev (zE ps.tmps)) parts.toList) (pT z 0)=some []:=by
  cases hpl:parts.toList with
  |nil=>rfl| cons x r=>rw[hpl] at hp;cases hp
 obtain⟨cells',el,hrun,g2,g3,g4⟩:=gR (w:=w) (S:=S) (β:=β) ht h.ld.bnd (ρ:=a.eval) (λx=>h.eval x) hf oM;have ld:=qI (w:=w) h.ld.bnd (.cells cells' el);have hn:=Sim.newNil (ps:=ps) (lg:=false) (n:=d) (s:=n) (els:=λ_=>[]) (h.go ld) hfr rfl;refine jC (w':=w.alloc (.cells cells' el)) (v:=.slice (some ⟨w.heap.size,0,none⟩) 0 0) ?_ ?_;{simp[execOp,hop,hrun]};{rw[hod];exact hk _ _ _ _ _ hs (hn.putT' d hd (.osl0 xG rfl rfl))}
theorem WO {ps:PS}{o:Oper}{t:TypeId}{len:Nat}{parts:Array (Nat×Operand)}{d:Nat}(hop:o.op=.buildSlice t len parts)(hod:o.dst=some d)(hd:d<N){K:PS->Prop}{Km:Act->World->Prop}{Q:Exit->Act->World->Prop}(h:Sim w0 S0 K0 N (zE ps.tmps) ps.objs a w S β) {n b:Nat} {z:List PV} (ht:ty t=.sli n b z) {els:List (List PV)} (hf:rW n (vO (ev (zE ps.tmps)) parts.toList) (pT z len)=some els) (hle:len*n<=1000) (hok:nD els=true) (hfr:yQ d ps=true) (hs:K ⟨uA ps.tmps d (.osl d n (λ_=>0) (λ_=>(zW els).length)),ps.objs++[(d,.arr n (λ_=>zW els))]⟩) (hk:∀ ps' a' w' S' β',K ps'->Sim w0 S0 K0 N (zE ps'.tmps) ps'.objs a' w' S' β'->Km a' w'):o.wp Pg a w Km Q:=by
 obtain⟨cells',el,hrun,g2,g3,g4⟩:=gR (w:=w) (S:=S) (β:=β) ht h.ld.bnd (ρ:=a.eval) (λx=>h.eval x) hf hle;have ld:=qI (w:=w) h.ld.bnd (.cells cells' el);have hsz:cells'.size=len*n:=by rw[g2.1,j5 n _ g3,g4]
 have hdl:(zW els).length=len:=by rw[tL,g4]
 have hn:=h.newObj (w':=w.alloc (.cells cells' el)) (b:=w.heap.size) (o:=.arr n (λ_=>zW els)) hfr ld (yD _) (by simp)
  (.inr ⟨w.heap.size,cells',el,xG,heap_alloc_new w _,by grind,λe he=>ZT els n g3 e he,λi k hi hk'=>by
   (have hi':i<els.length:=by grind);have hlen:(els.getD i []).length=n:=g3 _ (by grind)
   have hfl:i*n+k<(jF els).length:=by
    rw[j5 n _ g3]
    calc i*n+k<i*n+n:=by omega
     _=(i+1)*n:=by grind
     _<=_:=kG _ oM
   have hr:=g2.2 (i*n+k) hfl;rw[i5 n els g3 i k hi' hk'] at hr;have hck:=i8 els hok i k hi' oM;refine⟨?_,?_⟩;{show RepD _ _ _ (((zW els).getD i []).getD k _);rw[iX els i hi',j4];exact (mQ hr (lL hck)).evo (ld.evo h.ld.bnd).same (ld.subs h.ld.bnd)};grind [s3,WK]⟩)
 refine jC (w':=w.alloc (.cells cells' el)) (v:=.slice (some ⟨w.heap.size,0,none⟩) len len) ?_ ?_;{simp[execOp,hop,hrun]}
 ·(rw[hod];have hv:Rep (w.alloc (.cells cells' el)) S (fO β d (some w.heap.size)) (.slice (some ⟨w.heap.size,0,none⟩) len len) (.osl d n (λ_=>0) (λ_=>(zW els).length)):=by have:=Rep.osl (w:=w.alloc (.cells cells' el)) (S:=S) (β:=fO β d (some w.heap.size)) (n:=d) (s:=n) (cap:=len) (b:=w.heap.size) (o:=λ_=>0) (len:=λ_=>(zW els).length) xG oM (heap_alloc_new w _) (by grind);grind);exact hk _ _ _ _ _ hs (hn.putT' d hd hv)
theorem Vo {ps:PS}{o:Oper}{t:TypeId}{d:Nat}(hop:o.op=.makeMap t none)(hod:o.dst=some d)(hd:d<N){K:PS->Prop}{Km:Act->World->Prop}{Q:Exit->Act->World->Prop}(h:Sim w0 S0 K0 N (zE ps.tmps) ps.objs a w S β) (hm:MapOk t) (hfr:yQ d ps=true) (hs:K ⟨uA ps.tmps d (.mpv d),ps.objs++[(d,.mp t (λ_=>[]))]⟩) (hk:∀ ps' a' w' S' β',K ps'->Sim w0 S0 K0 N (zE ps'.tmps) ps'.objs a' w' S' β'->Km a' w'):o.wp Pg a w Km Q:=by
 obtain⟨k,e,hty⟩:=hm.h;have ld:=qI (w:=w) h.ld.bnd (.map #[] 0);have hn:=h.newObj (w':=w.alloc (.map #[] 0)) (b:=w.heap.size) (o:=.mp t (λ_=>[])) hfr ld (yD _) (by simp)
  ⟨w.heap.size,k,e,_,xG,hty,World.ownsMap_made w Pg k _,λx _ z=>by simp[DataW.atKey]⟩
 refine jC (w':=w.alloc (.map #[] 0)) (v:=.map (some w.heap.size)) (by simp only[execOp,hop,Sem.run_bind];rfl) ?_;rw[hod];exact hk _ _ _ _ _ hs (hn.putT' d hd (.mpv xG))
theorem KL {ps:PS}(h:Sim w0 S0 K0 N (zE ps.tmps) ps.objs a w S β){m:Operand}{n t:Nat}{ks:Unit->List Int}(hm:ev (zE ps.tmps) m=.mpv n)(ho:yN ps.objs n=some (.mp t ks)):∃ (b k e:Nat) (D:DataW Unit),a.eval m=.map (some b)/\β n=some b/\AB t k e/\w.ownsMap Pg k (plainElem Pg e) b (ks ()).length D/\∀ x:Int,(Lit.int .i64 x).wf=true->∀ z:DataW Unit,D.atKey (.int .i64 x) z=if x∈ks () then .lit (.bool true) else z:=by have hr:=h.eval m;rw[hm] at hr;obtain⟨b,hβ,hv⟩:=nX hr;obtain⟨b',k,e,D,hβ',h1,h2,h3⟩:=h.obj.at_ n _ (xU ho);grind
theorem Dc {e:TypeId}(he:Pg.underlying e=some .bool){v:Value}{x:Bool}{ps:List MemPlace}(h:plainElem (H:=Unit) Pg e v=some (.lit (.bool x),ps)):v=.bool x:=by unfold plainElem at h;grind
theorem Vh {e:TypeId}(he:ty e=.sc .ff)(w:World):(zeroValue e).run Pg w=.ok (.bool false) w:=by
 obtain⟨i,d,zv,h1,h2,h3,h4,h5,h6,h7,_⟩:=Xp he;have hz:zv=.bool false:=by
  cases zv with
  |bool b=>grind [wU]| pointer p=>grind [wU]| slice a l c=>grind [wU]| _=>simp[wU] at h7
 grind [pO]
theorem Qh {ps:PS}{o:Oper}{t:TypeId}{m x:Operand}(hop:o.op=.lookup t m x false)(hd:∀ t,o.dst=some t->t<N){K:PS->Prop}{Km:Act->World->Prop}{Q:Exit->Act->World->Prop}(h:Sim w0 S0 K0 N (zE ps.tmps) ps.objs a w S β) {n:Nat} {ks:Unit->List Int} {k:Unit->Int} (hm:ev (zE ps.tmps) m=.mpv n) (hx:ev (zE ps.tmps) x=.int .i64 k) (ho:yN ps.objs n=some (.mp t ks)) (hkey:KeyOk k) (hs:K (put ps o.dst (.bool (λ_=>decide (k ()∈ks ()))))) (hk:∀ ps' a' w' S' β',K ps'->Sim w0 S0 K0 N (zE ps'.tmps) ps'.objs a' w' S' β'->Km a' w'):o.wp Pg a w Km Q:=by obtain⟨b,kt,e,D,hv,hβ,⟨t1,t2,t3,t4⟩,h2,h3⟩:=KL h hm ho;have hxv:=h.eval x;rw[hx] at hxv;have hxv:=vY hxv;obtain⟨v,ps',hrun,hval⟩:=h2.lookup (Maps.int_keyed t2) t1 (Vh t4 w) (plainElem_bool t3 false) (key:=.int .i64 (k ())) (Maps.keyOf_int_mk t2 hkey.h);rw[h3 _ hkey.h,show (if k ()∈ks () then (DataW.lit (.bool true):DataW Unit) else .lit (.bool false))=.lit (.bool (decide (k ()∈ks ()))) by split <;> simp[*]] at hval;have:=Dc t3 hval;subst this;exact jC (w':=w) (v:=.bool (decide (k ()∈ks ()))) (by simp only[execOp,hop,hv,hxv,Sem.run_bind,hrun,Result.andThen_ok,Sem.run_pure]) (hk _ _ _ _ _ hs (w7 h o.dst hd (.c rfl (.bool _))))
theorem YJ {ps : PS} {o : Oper} {t : TypeId} {m x y : Operand} (hop : o.op = .mapUpdate t m x y) (hd : ∀ t, o.dst = some t → t < N) {K : PS → Prop} {Km : Act → World → Prop} {Q : Exit → Act → World → Prop} (h : Sim w0 S0 K0 N (zE ps.tmps) ps.objs a w S β)
    {n : Nat} {ks : Unit → List Int} {k : Unit → Int} (hm : ev (zE ps.tmps) m = .mpv n) (hx : ev (zE ps.tmps) x = .int .i64 k) (hy : ev (zE ps.tmps) y = .tt) (ho : yN ps.objs n = some (.mp t ks)) (hkey : KeyOk k) (hroom : MapRoom ks)
    (hs : K (put ⟨ps.tmps, setO ps.objs n (.mp t (fun _ => k () :: ks ()))⟩ o.dst .any))
    (hk : ∀ ps' a' w' S' β', K ps' → Sim w0 S0 K0 N (zE ps'.tmps) ps'.objs a' w' S' β' → Km a' w') : o.wp Pg a w Km Q := by
  obtain ⟨b, kt, e, D, hv, hβ, ⟨t1, t2, t3, t4⟩, h2, h3⟩ := KL h hm ho
  have hxv := h.eval x
  rw [hx] at hxv
  have hxv := vY hxv
  have hyv := h.eval y
  rw [hy] at hyv
  have hyv := iR hyv
  have hD := h2.isMap
  obtain ⟨w', hrun, hown, hg⟩ := h2.update (Maps.int_keyed t2) t1 (uY hroom.h (by decide)) (key := .int .i64 (k ())) (val := .bool true) (Maps.keyOf_int_mk t2 hkey.h) (plainElem_bool t3 true)
  have hmem := xU ho
  obtain ⟨hnS, hlt⟩ := h.obj.un n _ b hmem (.inl hβ)
  obtain ⟨es, cl, hb, _⟩ := h2
  have hsame : ∀ c, c < w.heap.size → c ≠ b → w'.heap[c]? = w.heap[c]? := fun c hc hne => hg.block c hc (fun e => hne (by grind))
  have hbb : ∀ (c : Nat) (us : Array Value) (T : TypeId), w.heap[c]? = some (.cells us T (0, 0)) → w'.heap[c]? = some (.cells us T (0, 0)) := fun c us T hc => by
    grind
  have he : Evo S w w' := ⟨fun c i hS => cT (hsame c (h.ld.bnd c i hS) (fun e => by subst e; exact hnS i hS)) i, fun c us T hc => ⟨us, hbb c us T hc, rfl⟩⟩
  have hn : n ∈ ps.objs.map Prod.fst := yZ.2 ⟨_, hmem, rfl⟩
  have nr : ∀ {c}, Own β n (.mp t (fun _ => k () :: ks ())) c → Own β n (.mp t ks) c := fun hc => .inl (xC (o := .mp t (fun _ => k () :: ks ())) (fun _ h => h) hc)
  have key : ∀ {m x c}, (m, x) ∈ Go.Proofs.YtaeaffgjdcigoaaGreat.setO ps.objs n (.mp t (fun _ => k () :: ks ())) → Own β m x c → ∃ x', (m, x') ∈ ps.objs ∧ Own β m x' c := by
    intro m x c hx hc
    rcases x6 h.obj.nd hn hx with ⟨rfl, rfl⟩ | ⟨_, h2⟩
    all_goals grind
  have hsim : Sim w0 S0 K0 N (zE ps.tmps) (Go.Proofs.YtaeaffgjdcigoaaGreat.setO ps.objs n (.mp t (fun _ => k () :: ks ()))) a w' S β := by
    refine ⟨h.dfr, h.sz, ?_, fun t => (h.tmp t).evo he (fun _ _ h => h), ⟨by rw [qM hn]; exact h.obj.nd, ?_, ?_, ?_⟩, ?_, ?_⟩
    · refine ⟨vL h.ld.size hg.size, hg.os.trans h.ld.os, hg.tape.trans h.ld.tape, hg.output.trans h.ld.output, fun c hc hk => ?_, fun c us U hc => ?_, fun c i hS => uY (h.ld.bnd c i hS) hg.size, h.ld.sub, h.ld.old⟩
      · rw [hsame c (uY hc h.ld.size) ?_]
        · exact h.ld.same c hc hk
        · rintro rfl
          rcases h.own n _ c hmem (.inl hβ) with h' | h'
          all_goals grind
      · obtain ⟨us', e1, e2⟩ := h.ld.shape c us U hc
        grind
    · intro m x hx
      rcases x6 h.obj.nd hn hx with ⟨rfl, rfl⟩ | ⟨h1, h5⟩
      · refine ⟨b, kt, e, _, hβ, ⟨t1, t2, t3, t4⟩, hown, fun z hz y => ?_⟩
        by_cases hzk : z = k ()
        · subst hzk
          rw [Maps.atKey_put_same (k := .int .i64 (k ())) hD trivial]
          simp
        · rw [Maps.atKey_put_other (by grind), h3 z hz y]
          by_cases hzm : z ∈ ks ()
          · rw [if_pos hzm, if_pos (wJ _ hzm)]
          · rw [if_neg hzm, if_neg (fun h => by rcases yG.1 h with h | h; · exact hzk h
                                                · exact hzm h)]
      · refine (h.obj.at_ m x h5).evo he fun c hc => hsame c (h.obj.un m x c h5 hc).2 ?_
        rintro rfl
        exact h1 (h.obj.inj _ _ _ _ c h5 hmem hc (.inl hβ))
    · intro m x c hx hc
      rcases x6 h.obj.nd hn hx with ⟨rfl, rfl⟩ | ⟨_, h5⟩
      · have := h.obj.un _ _ c hmem (nr hc)
        exact ⟨fun i hS => this.1 i hS, uY this.2 hg.size⟩
      · have := h.obj.un m x c h5 hc
        exact ⟨this.1, uY this.2 hg.size⟩
    · intro m x m' x' c hx hx' hc hc'
      obtain ⟨y, h1, g1⟩ := key hx hc
      obtain ⟨y', h5, g2⟩ := key hx' hc'
      exact h.obj.inj _ _ _ _ c h1 h5 g1 g2
    · intro m x c hx hc
      obtain ⟨y, h1, g1⟩ := key hx hc
      exact h.own m y c h1 g1
    · intro m x hx hb2
      rcases x6 h.obj.nd hn hx with ⟨rfl, rfl⟩ | ⟨_, h5⟩
      · exact h.keep m _ hmem hb2
      · exact h.keep m x h5 hb2
  refine Y8 (w' := w') (by simp only [execOp, hop, hv, hxv, hyv, Sem.run_bind, hrun, Result.andThen_ok, Sem.run_pure]) ?_
  exact hk _ _ _ _ _ hs (w7 (ps := ⟨ps.tmps, _⟩) hsim o.dst hd (xX _))
theorem WT:∀ {els:List (List PV)} {cs:List PV},JA els=some cs->jF els=cs/\els.length=cs.length
 |[],cs,h=>by cases h;exact⟨rfl,rfl⟩
 |[v]::r,cs,h=>by
  unfold JA at h;cases hr:JA r with
  |none=>grind| some l =>
   rw[hr] at h;cases h;obtain⟨h1,h2⟩:=WT hr;exact⟨by simp[jF,h1],by simp[h2]⟩
 |[]::r,cs,h=>by cases h
 |(_::_::_)::r,cs,h=>by cases h
theorem Vr {ps:PS}{o:Oper}{t:TypeId}{len:Nat}{parts:Array (Nat×Operand)}{d:Nat}(hop:o.op=.buildSlice t len parts)(hod:o.dst=some d)(hd:d<N){K:PS->Prop}{Km:Act->World->Prop}{Q:Exit->Act->World->Prop}(h:Sim w0 S0 K0 N (zE ps.tmps) ps.objs a w S β) {n b:Nat} {z:List PV} (ht:ty t=.sli n b z) {cs:List PV} (hn1:n=1) (hf:apK z (rW n (vO (ev (zE ps.tmps)) parts.toList) (pT z len))=some cs) (hl:cs.length=len) (hle:len*n<=1000) (hfr:yQ d ps=true) (hcs:wN d cs=true) (hs:K ⟨uA ps.tmps d (.osl d 1 (λ_=>0) (λ_=>len)),ps.objs++[(d,.box cs)]⟩) (hk:∀ ps' a' w' S' β',K ps'->Sim w0 S0 K0 N (zE ps'.tmps) ps'.objs a' w' S' β'->Km a' w'):o.wp Pg a w Km Q:=by
 subst hn1;unfold apK at hf;split at hf
 rotate_left
 {cases hf};split at hf
 rotate_left
 {cases hf};rename_i els hels;split at hf
 rotate_left
 {cases hf};rename_i cs' hap;split at hf
 rotate_left
 {cases hf};cases hf;obtain⟨e1,e2⟩:=WT hap;obtain⟨cells',el,hrun,g2,g3,g4⟩:=gR (w:=w) (S:=S) (β:=β) ht h.ld.bnd (ρ:=a.eval) (λx=>h.eval x) hels hle;rw[e1] at g2;have ld:=qI (w:=w) h.ld.bnd (.cells cells' el);have hn:=h.newObj (w':=w.alloc (.cells cells' el)) (b:=w.heap.size) (o:=.box cs) hfr ld (yD _) (by simp) ⟨w.heap.size,cells',el,xG,heap_alloc_new w _,g2.1,λj hj =>
   ((g2.2 j hj).evo (ld.evo h.ld.bnd) (ld.subs h.ld.bnd)).upd (xV rfl hcs j)⟩
 refine jC (w':=w.alloc (.cells cells' el)) (v:=.slice (some ⟨w.heap.size,0,none⟩) len len) ?_ ?_;{simp[execOp,hop,hrun]}
 ·(rw[hod];have hv:Rep (w.alloc (.cells cells' el)) S (fO β d (some w.heap.size)) (.slice (some ⟨w.heap.size,0,none⟩) len len) (.osl d 1 (λ_=>0) (λ_=>len)):=by have:=Rep.osl (w:=w.alloc (.cells cells' el)) (S:=S) (β:=fO β d (some w.heap.size)) (n:=d) (s:=1) (cap:=len) (b:=w.heap.size) (o:=λ_=>0) (len:=λ_=>len) xG (yD _) (heap_alloc_new w _) (by rw[g2.1,hl,jW];omega);omega);exact hk _ _ _ _ _ hs (hn.putT' d hd hv)
end
end Go.Proofs.YtaeaffgjdcigoaaGreat
