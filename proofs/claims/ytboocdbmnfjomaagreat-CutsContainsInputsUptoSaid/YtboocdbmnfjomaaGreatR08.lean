/- A part of the proof: PmK. -/
import Derived.Test.YtboocdbmnfjomaaGreatR07
set_option linter.all false
namespace Go.Proofs.YtboocdbmnfjomaaGreat
open Go
section
variable {w0:World} {S0:Nat->Nat->Prop} {K0:Nat->Prop} {N:Cx} {τ:Nat->PV} {objs:List (Nat×Obj')} {a:Act} {w w':World} {S S':Nat->Nat->Prop} {β:Bm}
theorem wU {ps:PS}(h:Sim w0 S0 K0 N (zD ps.tmps) ps.objs a w S β)(d:Option Nat)(hd:∀ t,d=some t->t<N){v:Value}{x:PV}(hv:Rep w S β v x):Sim w0 S0 K0 N (zD (put ps d x).tmps) (put ps d x).objs (a.put d v) w S β:=by rw[xL,kH];exact h.put d hd hv
theorem Sim.putT' {ps:PS}(h:Sim w0 S0 K0 N (zD ps.tmps) objs a w S β)(d:Nat)(hd:d<N){v:Value}{x:PV}(hv:Rep w S β v x):Sim w0 S0 K0 N (zD (v4 ps.tmps d x)) objs (a.put (some d) v) w S β:=by
 have:=h.put (some d) (λt e=>by grind) hv;have e:upd (zD ps.tmps) (some d) x=zD (v4 ps.tmps d x):=by funext t;simp[upd,gR]
 grind
theorem Sim.newObj {ps:PS}(h:Sim w0 S0 K0 N (zD ps.tmps) ps.objs a w S β){n b:Nat}{o:Obj'}(hf:yO n ps=true)(l:Leads w S qR w' S)(hb:w.heap.size<=b)(hb':b<w'.heap.size) (hat:ObjAt w' S (jB β n (some b)) n o) (hr:∀ i,¬vM o i:=by intro _ hi;exact hi):Sim w0 S0 K0 N (zD ps.tmps) (ps.objs++[(n,o)]) a w' S (jB β n (some b)):=by
 simp only[yO,yS] at hf;have hmem:∀ {m x},(m,x)∈ps.objs++[(n,o)]->((m,x)∈ps.objs/\m≠n)\/(m=n/\x=o):=by intro m x hm;simp only[w6,cM] at hm;rcases hm with hm|hm;{exact .inl ⟨hm,(y5 hf.2 hm).1⟩};grind
 have hg:=h.go l;refine⟨h.dfr,h.sz,hg.ld,λt=>(hg.tmp t).upd (vY hf.1 t),⟨?_,?_,?_,?_⟩,?_,?_⟩;{rw[jQ,iR];refine⟨h.obj.nd,by simp,?_⟩;intro x hx y hy e;simp at hy;subst hy e;obtain⟨⟨m,o⟩,h1,rfl⟩:=y9.1 hx;exact (y5 hf.2 h1).1 rfl};{intro m x hm;rcases hmem hm with⟨h1,h2⟩|⟨rfl,rfl⟩;{exact (hg.obj.at_ m x h1).upd h2 (y5 hf.2 h1).2};omega};{intro m x c hm hβ;rcases hmem hm with⟨h1,h2⟩|⟨rfl,rfl⟩;{exact hg.obj.un m x c h1 (vI h2 hβ)};{have hβ:=xH hr hβ;rw[xA] at hβ;cases hβ;exact⟨λi hS=>by have:=h.ld.bnd b i hS;omega,hb'⟩}};{intro m x m' x' c hm hm' hβ hβ';rcases hmem hm with⟨h1,h2⟩|⟨rfl,rfl⟩;{rcases hmem hm' with⟨h3,h4⟩|⟨rfl,rfl⟩;{exact hg.obj.inj _ _ _ _ c h1 h3 (vI h2 hβ) (vI h4 hβ')};{have hβ':=xH hr hβ';rw[xA] at hβ';cases hβ';have:=(h.obj.un m x b h1 (vI h2 hβ)).2;omega}};{rcases hmem hm' with⟨h3,h4⟩|⟨rfl,rfl⟩;{have hβ:=xH hr hβ;rw[xA] at hβ;cases hβ;have:=(h.obj.un m' x' b h3 (vI h4 hβ')).2;omega};{rfl}}};{intro m x c hm hβ;rcases hmem hm with⟨h1,h2⟩|⟨rfl,rfl⟩;{exact h.own m x c h1 (vI h2 hβ)};{have hβ:=xH hr hβ;rw[xA] at hβ;cases hβ;have:=h.ld.size;omega}};{intro m x hm hb2;rcases hmem hm with⟨h1,h2⟩|⟨rfl,rfl⟩;{rw[wQ h2];exact h.keep m x h1 hb2};{have:=uQ hf.2;omega}}
theorem Jb {lg:Bool}{n s:Nat}{els:Unit->List (List D)}(h:RowAt w S β n s els):ObjAt w S β n (fX lg s els):=by cases lg <;> exact h
theorem Wc (lg:Bool)(s:Nat)(els:Unit->List (List D))(i:Nat):¬vM (fX lg s els) i:=by cases lg <;> (intro hi;exact hi)
theorem RS (lg:Bool)(s:Nat)(els:Unit->List (List D)):VC (fX lg s els)=some (s,els):=by cases lg <;> rfl
theorem Sim.newNil {ps:PS}(h:Sim w0 S0 K0 N (zD ps.tmps) ps.objs a w S β){lg:Bool}{n s:Nat}{els:Unit->List (List D)}(hf:yO n ps=true)(he:els ()=[]):Sim w0 S0 K0 N (zD ps.tmps) (ps.objs++[(n,fX lg s els)]) a w S (jB β n none):=h.freshO hf (λβ' h=>Jb (.inl ⟨h,he⟩)) (Wc lg s els)
theorem GE {t:Nat}(h:(ty t).isNo=false):∃ i zv,Pg.info? t=some i/\i.zero=some zv/\RepL w S β zv.cells (ty t).zero:=by
 cases ht:ty t with
 |no=>grind [Ty.isNo]| sc z =>
  obtain⟨i,d,zv,h1,h2,h3,h4,h5,h6,h7,_⟩:=Xs ht;refine⟨i,zv,h1,h4,?_⟩;rw[h6,h7];exact jU #[zv]
 |st n fs z =>
  obtain⟨i,fields,zs,h1,h2,h3,h4,h5,h6,h7,_⟩:=Xr ht;refine⟨i,_,h1,h3,?_⟩;rw[h7];exact jU zs
 |arr len n ag z =>
  obtain⟨i,e,zs,h1,h2,h3,h4,h5,h6,h7,h8,h8',h8'',h9⟩:=iS ht;refine⟨i,_,h1,h3,?_⟩;rw[h9];exact jU zs
 |sli n b z =>
  obtain⟨i,e,j,zv,h1,h2,h3,_⟩:=u6 ht;exact⟨i,_,h1,h3,jU #[.slice none 0 0]⟩
theorem o9 {o:Oper}{d:Nat}(hod:o.dst=some d)(hd:d<N){cs:List PV}{ps:PS}{K:PS->Prop}{Km:Act->World->Prop}{Q:Exit->Act->World->Prop}(h:Sim w0 S0 K0 N (zD ps.tmps) ps.objs a w S β)(hs:ZZ d cs ps K) {cells:Array Value} {T:TypeId} (hr:RepL w S β cells cs) (hrun:(execOp a.eval o).run Pg w=.ok (.value (.pointer (some ⟨w.heap.size,0,none⟩))) (w.alloc (.cells cells T))) (hk:∀ ps' a' w' S' β',K ps'->Sim w0 S0 K0 N (zD ps'.tmps) ps'.objs a' w' S' β'->Km a' w') (hcs:wM d cs=true):o.wp Pg a w Km Q:=by
 unfold ZZ at hs;cases hf:yO d ps with
 |false=>grind| true =>
  simp only[hf,cond_true] at hs;have l:=vZ (w:=w) h.ld.bnd (.cells cells T);have hn:=h.newObj (w':=w.alloc (.cells cells T)) (b:=w.heap.size) (o:=.box cs) hf l (yX _) (by simp) ⟨w.heap.size,cells,T,xA,heap_alloc_new w _,hr.1,λj hj =>
   ((hr.2 j hj).evo (l.evo h.ld.bnd) (l.subs h.ld.bnd)).upd (xU rfl hcs j)⟩
  refine kE hrun ?_;rw[hod];exact hk _ _ _ _ _ hs (hn.putT' d hd (.ptr xA))
def wr (cur:Array Value) (pos:Nat) (news:List Value):Array Value:=(cur.toList.take pos++news++cur.toList.drop (pos+news.length)).toArray
theorem oA {cur:Array Value}{pos:Nat}{news:List Value}(h:pos+news.length<=cur.size):(wr cur pos news).size=cur.size:=by grind [wr]
theorem tA {cur:Array Value}{pos:Nat}{news:List Value}(h:pos+news.length<=cur.size)(j:Nat):(wr cur pos news).getD j undef=if pos<=j/\j<pos+news.length then news.getD (j-pos) undef else cur.getD j undef:=by
 have hl:(cur.toList.take pos).length=pos:=by grind
 simp only[wr,F2,List.getElem?_toArray,wK];congr 1;by_cases h1:j<pos;{grind};{by_cases h2:j<pos+news.length;{grind};grind}
theorem fM {b:Nat}{vs vs':Array Value}{T:TypeId}(hS:∀ i,S b i->vs'[i]?=vs[i]?)(hw:w.heap[b]?=some (.cells vs T (0,0)))(hsz:vs'.size=vs.size):Evo S w (w.setRow b vs') where
 same c i hc:=by by_cases e:c=b;{subst e;simp only[World.cell?,setRow_heap w c vs vs' T (0,0) hw,hw];grind};grind [bK,setRow_other]
 shape c us U hc:=by by_cases e:c=b;{grind [setRow_heap]};{exact⟨us,by grind [setRow_other],rfl⟩}
theorem RowAt.evo {n s:Nat}{els:Unit->List (List D)}(h:RowAt w S β n s els)(he:Evo S w w')(hb:∀ b,β n=some b->w'.heap[b]?=w.heap[b]?):RowAt w' S β n s els:=by rcases h with h|⟨b,vs,T,h1,h2,h3,h4,h5⟩;{exact .inl h};{exact .inr ⟨b,vs,T,h1,(hb b h1).trans h2,h3,h4,λi j hi hj=>⟨(h5 i j hi hj).1.evo he.same (λ_ _ h=>h),(h5 i j hi hj).2⟩⟩}
theorem RowIn.evo {ob:Option Nat}{v:Value}{s:Nat}{els:List (List D)}(h:RowIn w S ob v s els)(he:Evo S w w')(hb:∀ b,ob=some b->w'.heap[b]?=w.heap[b]?):RowIn w' S ob v s els:=by rcases h with h|⟨b,cap,us,T,h1,h2,h3,h4,h5,h6,h7⟩;{exact .inl h};{exact .inr ⟨b,cap,us,T,h1,h2,h3,(hb b h1).trans h4,h5,h6,λi j hi hj=>⟨(h7 i j hi hj).1.evo he.same (λ_ _ h=>h),(h7 i j hi hj).2⟩⟩}
theorem ObjAt.evo {n:Nat}{o:Obj'}(h:ObjAt w S β n o)(he:Evo S w w')(hbo:∀ b,Own β n o b->w'.heap[b]?=w.heap[b]?):ObjAt w' S β n o:=by
 have hb:∀ b,β n=some b->w'.heap[b]?=w.heap[b]?:=λb h=>hbo b (.inl h);cases o with
 |box cs =>
  obtain⟨b,vs,T,h1,h2,h3,h4⟩:=h;exact⟨b,vs,T,h1,(hb b h1).trans h2,h3,λj hj=>(h4 j hj).evo he (λ_ _ h=>h)⟩
 |arr s els=>exact RowAt.evo h he hb| log s els=>exact RowAt.evo h he hb| lent s els=>exact⟨RowAt.evo h.1 he hb,h.2⟩| mp t k=>exact MapAt.to h rfl hb| mat s rows hs =>
  obtain⟨hp,h5,h6⟩:=h;refine⟨?_,h5,h6⟩;rcases hp with hp|⟨b,vs,T,h1,h2,h3,h4,h7⟩;{grind};{exact .inr ⟨b,vs,T,h1,(hb b h1).trans h2,h3,λv k hk=>⟨(h4 v k hk).1,(h4 v k hk).2.evo he (λ_ _ h=>h)⟩,λi hi=>(h7 i hi).evo he λb hb'=>hbo b (.inr ⟨i,hi,hb'⟩)⟩}
theorem Sim.writeG (h:Sim w0 S0 K0 N τ objs a w S β){n b:Nat}{o0 o:Obj'}{vs vs':Array Value}{T:TypeId}(hm:(n,o0)∈objs)(hnp:∀ i,¬gF o0 i)(hβ:β n=some b)(hw:w.heap[b]?=some (.cells vs T (0,0)))(hsz:vs'.size=vs.size) (hat:ObjAt (w.setRow b vs') S β n o) (hown:∀ c,Own β n o c->Own β n o0 c):Sim w0 S0 K0 N τ (Go.Proofs.YtboocdbmnfjomaaGreat.setO objs n o) a (w.setRow b vs') S β:=by
 obtain⟨hnS,hlt⟩:=h.obj.un n o0 b hm (.inl hβ);have he:=fM (w:=w) (vs':=vs') (λi hS=>absurd (hnS i hS) (hnp i)) hw hsz;have hn:n∈objs.map Prod.fst:=y9.2 ⟨_,hm,rfl⟩;have key0:∀ {m x},(m,x)∈Go.Proofs.YtboocdbmnfjomaaGreat.setO objs n o->∃ x',(m,x')∈objs:=by
  intro m x hx;rcases xS h.obj.nd hn hx with⟨rfl,rfl⟩|⟨_,h2⟩
  all_goals grind
 have key:∀ {m x c},(m,x)∈Go.Proofs.YtboocdbmnfjomaaGreat.setO objs n o->Own β m x c->∃ x',(m,x')∈objs/\Own β m x' c:=by
  intro m x c hx hc;rcases xS h.obj.nd hn hx with⟨rfl,rfl⟩|⟨_,h2⟩
  all_goals grind
 refine⟨h.dfr,h.sz,?_,λt=>(h.tmp t).evo he (λ_ _ h=>h),⟨by rw[uD hn];exact h.obj.nd,?_,?_,?_⟩,?_,?_⟩
 ·refine⟨by simpa using h.ld.size,h.ld.os,h.ld.tape,h.ld.output,λc hc hk=>?_,λc us U hc=>?_,λc i hS=>by simpa using h.ld.bnd c i hS,h.ld.sub,h.ld.old⟩
  ·rw[setRow_other w b c vs' ?_];{exact h.ld.same c hc hk}
   ·rintro rfl;rcases h.own n o0 c hm (.inl hβ) with h'|h'
    all_goals grind
  {obtain⟨us',e1,e2⟩:=h.ld.shape c us U hc;obtain⟨us'',e3,e4⟩:=he.shape c us' U e1;grind}
 {intro m x hx;rcases xS h.obj.nd hn hx with⟨rfl,rfl⟩|⟨h1,h2⟩;{exact hat};{refine (h.obj.at_ m x h2).evo he λc hc=>setRow_other w b c vs' ?_;rintro rfl;exact h1 (h.obj.inj _ _ _ _ c h2 hm hc (.inl hβ))}};{intro m x c hx hc;rcases xS h.obj.nd hn hx with⟨rfl,rfl⟩|⟨_,h2⟩;{have:=h.obj.un _ o0 c hm (hown c hc);simp_all};{simpa using h.obj.un m x c h2 hc}};{intro m x m' x' c hx hx' hc hc';obtain⟨y,h1,g1⟩:=key hx hc;obtain⟨y',h2,g2⟩:=key hx' hc';exact h.obj.inj _ _ _ _ c h1 h2 g1 g2};{intro m x c hx hc;obtain⟨y,h1,g1⟩:=key hx hc;exact h.own m y c h1 g1};{intro m x hx hb2;obtain⟨y,h1⟩:=key0 hx;exact h.keep m y h1 hb2}
theorem Sim.write (h:Sim w0 S0 K0 N τ objs a w S β){n b:Nat}{o0 o:Obj'}{vs vs':Array Value}{T:TypeId}(hm:(n,o0)∈objs)(hnp:∀ i,¬gF o0 i)(hβ:β n=some b)(hw:w.heap[b]?=some (.cells vs T (0,0)))(hsz:vs'.size=vs.size) (hat:ObjAt (w.setRow b vs') S β n o) (hr:∀ i,¬vM o i:=by intro _ hi;exact hi):Sim w0 S0 K0 N τ (Go.Proofs.YtboocdbmnfjomaaGreat.setO objs n o) a (w.setRow b vs') S β :=
 h.writeG hm hnp hβ hw hsz hat λc hc=>.inl (xH hr hc)
theorem mT {t:Nat}(hno:(ty t).isNo=false){b o:Nat}{v:Value}{cur:Array Value}{T:TypeId}(hb:w.heap[b]?=some (.cells cur T (0,0)))(hsz:v.cells.size=(ty t).cells)(hfit:o+v.cells.size<=cur.size) (h1:∀ u∈v.cells.toList,u.oneCell'=true):(Instr.storeAt t (.pointer (some ⟨b,o,none⟩)) v).run Pg w=.ok () (w.setRow b (wr cur o v.cells.toList)):=by
 obtain⟨i,d,hi,hu,hs,ha⟩:=UY hno;have hst:=run_storeCells_at (P:=Pg) b o T v.cells.toList 0 cur w hb oM h1;simp only[t9] at hst;have e:v.cells.size=i.size:=by omega
 simp only[Instr.storeAt,Instr.sureAddr,storeVar,Sem.run_bind,Sem.run_pure,Result.andThen_ok,uP hi,e,ne_eq,not_true_eq_false,if_false,hst];rfl
theorem tZ {x:PV}{v:Value}(h:Rep w S β v x)(hp:y4 tW (yZ x)=true):fF x=true:=by
 cases x with
 |agg cs=>rfl| _=>simpa[yZ,y4,fF] using hp
theorem Sm:∀ {l:List PV},y4 Zs l=true->y4 tW l=true
 |[],_=>rfl| c::l,h=>by simp only[y4,yS] at h ⊢;exact⟨W5 h.1,Sm h.2⟩
theorem ZY {x:PV}{v:Value}(h:Rep w S β v x)(hp:y4 tW (yZ x)=true):∀ u∈v.cells.toList,u.oneCell'=true:=by
 obtain⟨h1,h2⟩:=gE h (tZ h hp);intro u hu;obtain⟨j,hj,rfl⟩:=List.getElem_of_mem hu;have hj':j<(yZ x).length:=by grind
 have hv:j<v.cells.size:=by omega
 have:=sT (h2 j hj') (wY hp j hj');simp_all
theorem dW (v:Value)(j:Nat):v.cells.toList.getD j undef=v.cells.getD j undef:=by simp
theorem Dh {ps:PS}{o:Oper}{t:TypeId}{ad vl:Operand}(hop:o.op=.store t ad vl)(hd:∀ t,o.dst=some t->t<N){K:PS->Prop}{Km:Act->World->Prop}{Q:Exit->Act->World->Prop}(h:Sim w0 S0 K0 N (zD ps.tmps) ps.objs a w S β) {n off:Nat} {cs:List PV} (ha:ev (zD ps.tmps) ad=.ptr n off) (ho:yK ps.objs n=some (.box cs)) (hl:(yZ (ev (zD ps.tmps) vl)).length=(ty t).cells) (hle:off+(ty t).cells<=cs.length) (h0:0<(ty t).cells) (hok:y4 tW (yZ (ev (zD ps.tmps) vl))=true) (hs:K (put ⟨ps.tmps,setO ps.objs n (.box (uY cs off (yZ (ev (zD ps.tmps) vl))))⟩ o.dst .any)) (hk:∀ ps' a' w' S' β',K ps'->Sim w0 S0 K0 N (zD ps'.tmps) ps'.objs a' w' S' β'->Km a' w'):o.wp Pg a w Km Q:=by
 have hmem:=xG ho;have hra:=h.eval ad;have hrv:=h.eval vl;rw[ha] at hra;obtain⟨b,hβ,hv⟩:=jP hra;obtain⟨b',vs,T,hβ',hb,hsz,hrr⟩:=Qs h ho;rw[hβ] at hβ';cases hβ';have hno:(ty t).isNo=false:=by cases hty:ty t <;> simp[hty,Ty.cells,Ty.isNo] at h0 ⊢
 have hp:=tZ hrv hok;obtain⟨c1,c2⟩:=gE hrv hp;have hfit:off+(a.eval vl).cells.toList.length<=vs.size:=by grind
 have hrun:=mT (w:=w) (b:=b) (o:=off) hno hb oM oM (ZY hrv hok);have hw:=oA hfit;have hnS:=(h.obj.un n _ b hmem (.inl hβ)).1;have he:=fM (w:=w) (λi hS=>absurd (hnS i hS) id) hb hw;have hsim:=h.write (o:=.box (uY cs off (yZ (ev (zD ps.tmps) vl)))) hmem (λi=>id) hβ hb hw ⟨b,_,T,hβ,setRow_heap w b vs _ T _ hb,by grind [kX],λj hj=>by
  (rw[kX _ _ _ oM] at hj;rw[tA hfit,sI _ _ _ oM];have e:(a.eval vl).cells.toList.length=(yZ (ev (zD ps.tmps) vl)).length:=by omega);rw[e]
  by_cases hr:off<=j/\j<off+(yZ (ev (zD ps.tmps) vl)).length;{rw[if_pos hr,if_pos hr,dW];exact (c2 (j-off) oM).evo he (λ_ _ h=>h)}
  ·rw[if_neg hr,if_neg hr];exact (hrr j hj).evo he (λ_ _ h=>h)⟩
 refine oB (w':=w.setRow b (wr vs off (a.eval vl).cells.toList)) (by simp only[execOp,hop,hv,Sem.run_bind,hrun,Result.andThen_ok,Sem.run_pure]) ?_;exact hk _ _ _ _ _ hs (wU (ps:=⟨ps.tmps,_⟩) hsim o.dst hd (xV _))
theorem JE (l:List (List D))(i k:Nat)(x:List D)(hi:i<l.length):(l.set i x).getD k []=if i=k then x else l.getD k []:=by grind
theorem Di {ps:PS}{o:Oper}{t:TypeId}{ad vl:Operand}(hop:o.op=.store t ad vl)(hd:∀ t,o.dst=some t->t<N){K:PS->Prop}{Km:Act->World->Prop}{Q:Exit->Act->World->Prop}(h:Sim w0 S0 K0 N (zD ps.tmps) ps.objs a w S β) {n s off:Nat} {i:Unit->Nat} {els:Unit->List (List D)} (ha:ev (zD ps.tmps) ad=.aptr n s i off) (ho:yK ps.objs n=some (.arr s els)) (hl:(yZ (ev (zD ps.tmps) vl)).length=(ty t).cells) (hle:off+(ty t).cells<=s) (h0:0<(ty t).cells) (hok:y4 Zs (yZ (ev (zD ps.tmps) vl))=true) (hs:ElOk s els i (λc=>K (put ⟨ps.tmps,setO ps.objs n (.arr s (λ_=>(els ()).set (i ()) (xC (uY c off (yZ (ev (zD ps.tmps) vl))))))⟩ o.dst .any))) (hk:∀ ps' a' w' S' β',K ps'->Sim w0 S0 K0 N (zD ps'.tmps) ps'.objs a' w' S' β'->Km a' w'):o.wp Pg a w Km Q:=by
 have hmem:=xG ho;have hra:=h.eval ad;have hrv:=h.eval vl;rw[ha] at hra;obtain⟨c,hcf,hcl,hck,hK⟩:=hs.h;have hlt:i ()<(els ()).length:=by grind
 obtain⟨b,hβ,hv⟩:=jE hra;rcases h.obj.at_ n _ hmem with⟨hn,he0⟩|⟨b',vs,T,hβ',hb,hsz,hwid,hrr⟩;{grind};rw[hβ] at hβ';cases hβ'
 have hno:(ty t).isNo=false:=by cases hty:ty t <;> simp[hty,Ty.cells,Ty.isNo] at h0 ⊢
 have hokC:=Sm hok;have hp:=tZ hrv hokC;obtain⟨c1,c2⟩:=gE hrv hp;have hin:i ()*s+s<=(els ()).length*s:=by
  calc i ()*s+s=(i ()+1)*s:=by grind
   _<=_:=uU _ hlt
 have hfit:i ()*s+off+(a.eval vl).cells.toList.length<=vs.size:=by grind
 have hrun:=mT (w:=w) (b:=b) (o:=i ()*s+off) hno hb oM oM (ZY hrv hokC);have hw:=oA hfit;have hnS:=(h.obj.un n _ b hmem (.inl hβ)).1;have he:=fM (w:=w) (λi hS=>absurd (hnS i hS) id) hb hw;have hg:(els ()).getD (i ()) []=xC c:=by grind
 have hsim:=h.write (o:=.arr s (λ_=>(els ()).set (i ()) (xC (uY c off (yZ (ev (zD ps.tmps) vl)))))) hmem (λi=>id) hβ hb hw (.inr ⟨b,_,T,hβ,setRow_heap w b vs _ T _ hb,by grind,λe hm=>by
  rcases To hm with hm|rfl;{grind};grind [kS,kX],λk j hkl hj=>by
  (simp only[cL] at hkl;rw[tA hfit,JE _ _ _ _ hlt];have e:(a.eval vl).cells.toList.length=(yZ (ev (zD ps.tmps) vl)).length:=by omega);rw[e]
  by_cases hki:i ()=k
  ·subst hki;rw[if_pos rfl,j8,sI _ _ _ oM];by_cases hr:off<=j/\j<off+(yZ (ev (zD ps.tmps) vl)).length
   ·(rw[if_pos oM,if_pos hr,dW];have e2:i ()*s+j-(i ()*s+off)=j-off:=by omega);rw[e2]
    (have hj2:j-off<(yZ (ev (zD ps.tmps) vl)).length:=by omega);exact⟨(mV (c2 (j-off) hj2) (lO (wY hok _ hj2))).evo he.same (λ_ _ h=>h),sT (c2 (j-off) hj2) (W5 (wY hok _ hj2))⟩
   {rw[if_neg oM,if_neg hr];have:=hrr (i ()) j hlt hj;rw[hg,j8] at this;exact⟨this.1.evo he.same (λ_ _ h=>h),this.2⟩}
  ·(rw[if_neg hki];have hout:¬(i ()*s+off<=k*s+j/\k*s+j<i ()*s+off+(yZ (ev (zD ps.tmps) vl)).length):=by rcases Nat.lt_or_gt_of_ne hki with hlt'|hgt;{have:(i ()+1)*s<=k*s:=uU _ hlt';grind};{have:(k+1)*s<=i ()*s:=uU _ hgt;grind});rw[if_neg hout];have:=hrr k j hkl hj;exact⟨this.1.evo he.same (λ_ _ h=>h),this.2⟩⟩)
 refine oB (w':=w.setRow b (wr vs (i ()*s+off) (a.eval vl).cells.toList)) (by simp only[execOp,hop,hv,Sem.run_bind,hrun,Result.andThen_ok,Sem.run_pure]) ?_;exact hk _ _ _ _ _ hK (wU (ps:=⟨ps.tmps,_⟩) hsim o.dst hd (xV _))
theorem Dg {ps:PS}{o:Oper}{t:TypeId}{ad vl:Operand}(hop:o.op=.store t ad vl)(hd:∀ t,o.dst=some t->t<N){K:PS->Prop}{Km:Act->World->Prop}{Q:Exit->Act->World->Prop}(h:Sim w0 S0 K0 N (zD ps.tmps) ps.objs a w S β) {n s:Nat} {i:Unit->Nat} {rows:Unit->List (List (List D))} {hs0:List (PV×(Unit->Nat))} (ha:ev (zD ps.tmps) ad=.aptr n 1 i 0) (ho:yK ps.objs n=some (.mat s rows hs0)) (hl:(ty t).cells=1) (hok:MR (ev (zD ps.tmps) vl)=true) (hs:StoH hs0 i (ev (zD ps.tmps) vl) (λhs'=>K (put ⟨ps.tmps,setO ps.objs n (.mat s rows hs')⟩ o.dst .any))) (hk:∀ ps' a' w' S' β',K ps'->Sim w0 S0 K0 N (zD ps'.tmps) ps'.objs a' w' S' β'->Km a' w'):o.wp Pg a w Km Q:=by
 have hmem:=xG ho;have hra:=h.eval ad;have hrv:=h.eval vl;rw[ha] at hra;obtain⟨hs1,v0,k,hs2,rfl,hki,hoth,hK⟩:=hs.h;obtain⟨b,hβ,hv⟩:=jE hra;have hM:MatAt w S β n s rows (hs1++(v0,k)::hs2):=h.obj.at_ n _ hmem;rcases hM.pl with⟨_,_,h2⟩|⟨b',vs,T,hβ',hb,hsz,hhs,hrs⟩;{grind};rw[hβ] at hβ';cases hβ'
 have hlt:i ()<(rows ()).length:=by grind
 have hno:(ty t).isNo=false:=by cases hty:ty t <;> simp[hty,Ty.cells,Ty.isNo] at hl ⊢
 generalize hx:ev (zD ps.tmps) vl=x at hrv hok hK;have hc1:yZ x=[x]:=by cases x <;> first|rfl|cases hok
 have hokC:y4 tW (yZ x)=true:=by cases x <;> first|rfl|cases hok
 have hp:=tZ hrv hokC;obtain⟨c1,c2⟩:=gE hrv hp;rw[hc1] at c1 c2;have c2:=c2 0 (by simp);have hlen:(a.eval vl).cells.toList.length=1:=by omega
 have hfit:i ()+(a.eval vl).cells.toList.length<=vs.size:=by omega
 have hrun:=mT (w:=w) (b:=b) (o:=i ()) hno hb (by grind) oM (ZY hrv hokC);have hw:=oA hfit;have hnS:=(h.obj.un n _ b hmem (.inl hβ)).1;have he:=fM (w:=w) (λi hS=>absurd (hnS i hS) id) hb hw;have hrow:∀ {j},vM (.mat s rows (hs1++(x,k)::hs2)) j->vM (.mat s rows (hs1++(v0,k)::hs2)) j/\j≠i ():=by intro j hj;refine⟨⟨hj.1,λv k' hk'=>?_⟩,λe=>hj.2 x k (nQ _ wZ) oM⟩;rcases w6.1 hk' with h'|h';{exact hj.2 v k' (ZE _ h')};{rcases yR.1 h' with e|h';{cases e;exact hj.2 x k (nQ _ wZ)};{exact hj.2 v k' (nQ _ (wJ _ h'))}}
 have hg:∀ j,j≠i ()->(wr vs (i ()) (a.eval vl).cells.toList).getD j undef=vs.getD j undef:=by intro j hj;rw[tA hfit,if_neg oM]
 have hg0:(wr vs (i ()) (a.eval vl).cells.toList).getD (i ()) undef=(a.eval vl).cells.getD 0 undef:=by rw[tA hfit,if_pos oM,dW,ZF]
 have hsim:=h.writeG (o:=.mat s rows (hs1++(x,k)::hs2)) hmem (λi=>id) hβ hb hw ⟨.inr ⟨b,_,T,hβ,setRow_heap w b vs _ T _ hb,by omega,?_,?_⟩,?_,?_⟩ ?_;{refine oB (w':=w.setRow b (wr vs (i ()) (a.eval vl).cells.toList)) (by simp only[execOp,hop,hv,ZD,t9,Sem.run_bind,hrun,Result.andThen_ok,Sem.run_pure]) ?_;exact hk _ _ _ _ _ hK (wU (ps:=⟨ps.tmps,_⟩) hsim o.dst hd (xV _))}
 ·intro v k' hk';have hold:∀ {v k'},(v,k')∈hs1++hs2->k' ()<(rows ()).length/\Rep (w.setRow b (wr vs (i ()) (a.eval vl).cells.toList)) S β ((wr vs (i ()) (a.eval vl).cells.toList).getD (k' ()) undef) v:=by
   (intro v k' hk';rw[hg _ (hoth v k' hk')];have hin:(v,k')∈hs1++(v0,k)::hs2:=by rcases w6.1 hk' with h'|h';{grind};{exact nQ _ (wJ _ h')});exact⟨(hhs v k' hin).1,(hhs v k' hin).2.evo he λ_ _ h=>h⟩
  rcases w6.1 hk' with h'|h';{exact hold (ZE _ h')};{rcases yR.1 h' with e|h';{cases e;rw[hki,hg0];exact⟨hlt,(show Rep w S β _ _ from c2).evo he λ_ _ h=>h⟩};{exact hold (nQ _ h')}}
 {intro j hj;obtain⟨h1,h2⟩:=hrow hj;rw[hg j h2];exact (hrs j h1).evo he λc hc=>setRow_other w b c _ (by rintro rfl;exact hM.ne j c h1 hc hβ)};{exact λj j' c hj hj'=>hM.inj j j' c (hrow hj).1 (hrow hj').1};{exact λj c hj=>hM.ne j c (hrow hj).1};{rintro c (e|⟨j,hj,e⟩);{exact .inl e};{exact .inr ⟨j,(hrow hj).1,e⟩}}
theorem Wq (z:Array Value)(n j:Nat)(hj:j<n)(hz:0<z.size):(madeCells z n).getD j undef=z.getD (j%z.size) undef:=by have:j%z.size<z.size:=uF _ hz;simp[madeCells,hj,getElem!_def,He this]
theorem H5 {ps:PS}{o:Oper}{t:TypeId}{l c:Operand}{d:Nat}(hop:o.op=.makeSlice t l c)(hod:o.dst=some d)(hd:d<N){K:PS->Prop}{Km:Act->World->Prop}{Q:Exit->Act->World->Prop}(h:Sim w0 S0 K0 N (zD ps.tmps) ps.objs a w S β) {n b:Nat} {z:List PV} (ht:ty t=.sli n b z) {x y:Unit->Int} (hl:ev (zD ps.tmps) l=.int .i64 x) (hc:ev (zD ps.tmps) c=.int .i64 y) (hR:Room y b) (hM:MkOk x y) (hf:yO d ps=true) (hz:y4 Zs z=true) (hs:K ⟨v4 ps.tmps d (.osl d n (λ_=>0) (λ_=>(x ()).toNat)),ps.objs++[(d,.arr n (λ_=>List.replicate (x ()).toNat (xC z)))]⟩) (hk:∀ ps' a' w' S' β',K ps'->Sim w0 S0 K0 N (zD ps'.tmps) ps'.objs a' w' S' β'->Km a' w'):o.wp Pg a w Km Q:=by
 obtain⟨inf,el,j,zv,h1,h2,h3,h4,h5,h6,h7,h8,h9,h10,h11,h12⟩:=u6 ht;have hrl:=h.eval l;have hrc:=h.eval c;rw[hl] at hrl;rw[hc] at hrc;have hlv:=vX hrl;have hcv:=vX hrc;have hx0:=hM.lo;have hxy:=hM.hi;have hy0:=hR.lo;have hyb:=hR.hi;have hyle:y ()<=y ()*(b:Int):=by have:y ()*1<=y ()*(b:Int):=Int.mul_le_mul_of_nonneg_left oM hy0;omega
 have hbytes:(j.bytes:Int)*y ()<=281474976710656:=by grind
 have hrun:=run_make (P:=Pg) w t el j zv h4 h5 h6 .i64 .i64 (x ()) (y ()) hx0 hxy hbytes oM;have hsz:(madeCells zv.cells ((y ()).toNat*j.size)).size=(y ()).toNat*n:=by rw[size_madeCells,h7]
 have ld:=vZ (w:=w) h.ld.bnd (.cells (madeCells zv.cells ((y ()).toNat*j.size)) el);have hzl:z.length=n:=by grind
 have hz':=jU (w:=w) (S:=S) (β:=β) zv.cells;rw[<-h11] at hz';have hxn:(x ()).toNat<=(y ()).toNat:=by omega
 have hn:=h.newObj (w':=w.alloc (.cells (madeCells zv.cells ((y ()).toNat*j.size)) el)) (b:=w.heap.size) (o:=.arr n (λ_=>List.replicate (x ()).toNat (xC z))) hf ld (yX _) (by simp)
  (.inr ⟨w.heap.size,_,el,xA,heap_alloc_new w _,by rw[hsz];simpa using uU n hxn,λe he=>by
   rw[Tn he,kS,hzl],λi k hi hk'=>by
   simp only[FZ] at hi;have hlt:i*n+k<(y ()).toNat*n:=by
    calc i*n+k<i*n+n:=by omega
     _=(i+1)*n:=by grind
     _<=_:=uU _ oM
   (have hmod:(i*n+k)%zv.cells.size=k:=by rw[h9,YP,Nat.add_mul_mod_self_right,kP hk']);have hg:(madeCells zv.cells ((y ()).toNat*j.size)).getD (i*n+k) undef=zv.cells.getD k undef:=by grind [Wq]
   (have hrep:(List.replicate (x ()).toNat (xC z)).getD i []=xC z:=by simp[hi]);rw[hrep,j8]
   have hr:=hz'.2 k oM;have hck:=wY hz k oM;refine⟨?_,?_⟩;{rw[hg];exact (mV hr (lO hck)).evo (ld.evo h.ld.bnd).same (ld.subs h.ld.bnd)};grind [sT,W5]⟩)
 refine kE (w':=w.alloc (.cells (madeCells zv.cells ((y ()).toNat*j.size)) el)) (v:=.slice (some ⟨w.heap.size,0,none⟩) (x ()).toNat (y ()).toNat) ?_ ?_;{simp only[execOp,hop,hlv,hcv,Sem.run_bind,hrun,Result.andThen_ok,Sem.run_pure]}
 ·(rw[hod];have hv:Rep (w.alloc (.cells (madeCells zv.cells ((y ()).toNat*j.size)) el)) S (jB β d (some w.heap.size)) (.slice (some ⟨w.heap.size,0,none⟩) (x ()).toNat (y ()).toNat) (.osl d n (λ_=>0) (λ_=>(x ()).toNat)):=by have:=Rep.osl (w:=w.alloc (.cells (madeCells zv.cells ((y ()).toNat*j.size)) el)) (S:=S) (β:=jB β d (some w.heap.size)) (n:=d) (s:=n) (cap:=(y ()).toNat) (b:=w.heap.size) (o:=λ_=>0) (len:=λ_=>(x ()).toNat) xA hxn (heap_alloc_new w _) (by grind);grind);exact hk _ _ _ _ _ hs (hn.putT' d hd hv)
theorem K7 {x:Option (List (List PV))}{k s:Nat}{o len:Unit->Nat}(h:Qr x=some (k,s,o,len)):x=some [[.osl k s o len]]:=by unfold Qr at h;grind
theorem Vb {ps:PS}{o:Oper}{t:TypeId}{len:Nat}{parts:Array (Nat×Operand)}{d:Nat}(hop:o.op=.buildSlice t len parts)(hod:o.dst=some d)(hd:d<N){K:PS->Prop}{Km:Act->World->Prop}{Q:Exit->Act->World->Prop}(h:Sim w0 S0 K0 N (zD ps.tmps) ps.objs a w S β) {b:Nat} {z:List PV} (ht:ty t=.sli 1 b z) (hl:len=1) {k s:Nat} {o' len':Unit->Nat} (hf:sZ 1 (vJ (ev (zD ps.tmps)) parts.toList) (rZ z len)=some [[.osl k s o' len']]) (hkd:xN d (.osl k s o' len')=true) (hfr:yO d ps=true) (hs:K ⟨v4 ps.tmps d (.osl d 1 (λ_=>0) (λ_=>1)),ps.objs++[(d,.mat s (λ_=>[[]]) [(.osl k s o' len',λ_=>0)])]⟩) (hk:∀ ps' a' w' S' β',K ps'->Sim w0 S0 K0 N (zD ps'.tmps) ps'.objs a' w' S' β'->Km a' w'):o.wp Pg a w Km Q:=by
 subst hl;obtain⟨cells',el,hrun,g2,g3,g4⟩:=jD (w:=w) (S:=S) (β:=β) ht h.ld.bnd (ρ:=a.eval) (λx=>h.eval x) hf oM;have ld:=vZ (w:=w) h.ld.bnd (.cells cells' el);have hsz:1<=cells'.size:=by have:=g2.1;grind [kU]
 have hc0:Rep w S β (cells'.getD 0 undef) (.osl k s o' len'):=g2.2 0 (by simp[kU]);have hnr:∀ i,¬vM (.mat s (λ_=>[[]]) [(.osl k s o' len',λ_=>0)]) i:=by rintro i ⟨h1,h2⟩;grind
 have hn:=h.newObj (w':=w.alloc (.cells cells' el)) (b:=w.heap.size) (o:=.mat s (λ_=>[[]]) [(.osl k s o' len',λ_=>0)]) hfr ld (yX _) (by simp)
  ⟨.inr ⟨w.heap.size,cells',el,xA,heap_alloc_new w _,by omega,λv k' hk'=>by simp only[cM,F3] at hk';obtain⟨rfl,rfl⟩:=hk';exact⟨by simp,(hc0.evo (ld.evo h.ld.bnd) (ld.subs h.ld.bnd)).upd hkd⟩,λi hi=>absurd hi (hnr i)⟩,λi j b hi=>absurd hi (hnr i),λi b hi=>absurd hi (hnr i)⟩ hnr
 refine kE (w':=w.alloc (.cells cells' el)) (v:=.slice (some ⟨w.heap.size,0,none⟩) 1 1) ?_ ?_;{simp[execOp,hop,hrun]}
 ·(rw[hod];have hv:Rep (w.alloc (.cells cells' el)) S (jB β d (some w.heap.size)) (.slice (some ⟨w.heap.size,0,none⟩) 1 1) (.osl d 1 (λ_=>0) (λ_=>1)):=by have:=Rep.osl (w:=w.alloc (.cells cells' el)) (S:=S) (β:=jB β d (some w.heap.size)) (n:=d) (s:=1) (cap:=1) (b:=w.heap.size) (o:=λ_=>0) (len:=λ_=>1) xA (yX _) (heap_alloc_new w _) oM;omega);exact hk _ _ _ _ _ hs (hn.putT' d hd hv)
theorem Q8 {ps:PS}{o:Oper}{t:TypeId}{len:Nat}{parts:Array (Nat×Operand)}{d:Nat}(hop:o.op=.buildSlice t len parts)(hod:o.dst=some d)(hd:d<N){K:PS->Prop}{Km:Act->World->Prop}{Q:Exit->Act->World->Prop}(h:Sim w0 S0 K0 N (zD ps.tmps) ps.objs a w S β) {n b:Nat} {z:List PV} (ht:ty t=.sli n b z) (hl:len=0) (hp:Qt parts.toList=true) (hfr:yO d ps=true) (hs:K ⟨v4 ps.tmps d (.osl d n (λ_=>0) (λ_=>0)),ps.objs++[(d,.arr n (λ_=>[]))]⟩) (hk:∀ ps' a' w' S' β',K ps'->Sim w0 S0 K0 N (zD ps'.tmps) ps'.objs a' w' S' β'->Km a' w'):o.wp Pg a w Km Q:=by
 subst hl;have hf:sZ n (vJ (ev (zD ps.tmps)) parts.toList) (rZ z 0)=some []:=by
  cases hpl:parts.toList with
  |nil=>rfl| cons x r=>rw[hpl] at hp;cases hp
 obtain⟨cells',el,hrun,g2,g3,g4⟩:=jD (w:=w) (S:=S) (β:=β) ht h.ld.bnd (ρ:=a.eval) (λx=>h.eval x) hf oM;have ld:=vZ (w:=w) h.ld.bnd (.cells cells' el);have hn:=Sim.newNil (ps:=ps) (lg:=false) (n:=d) (s:=n) (els:=λ_=>[]) (h.go ld) hfr rfl;refine kE (w':=w.alloc (.cells cells' el)) (v:=.slice (some ⟨w.heap.size,0,none⟩) 0 0) ?_ ?_;{simp[execOp,hop,hrun]};{rw[hod];exact hk _ _ _ _ _ hs (hn.putT' d hd (.osl0 xA rfl rfl))}
theorem Va {ps:PS}{o:Oper}{t:TypeId}{len:Nat}{parts:Array (Nat×Operand)}{d:Nat}(hop:o.op=.buildSlice t len parts)(hod:o.dst=some d)(hd:d<N){K:PS->Prop}{Km:Act->World->Prop}{Q:Exit->Act->World->Prop}(h:Sim w0 S0 K0 N (zD ps.tmps) ps.objs a w S β) {n b:Nat} {z:List PV} (ht:ty t=.sli n b z) {els:List (List PV)} (hf:sZ n (vJ (ev (zD ps.tmps)) parts.toList) (rZ z len)=some els) (hle:len*n<=1000) (hok:nK els=true) (hfr:yO d ps=true) (hs:K ⟨v4 ps.tmps d (.osl d n (λ_=>0) (λ_=>(zK els).length)),ps.objs++[(d,.arr n (λ_=>zK els))]⟩) (hk:∀ ps' a' w' S' β',K ps'->Sim w0 S0 K0 N (zD ps'.tmps) ps'.objs a' w' S' β'->Km a' w'):o.wp Pg a w Km Q:=by
 obtain⟨cells',el,hrun,g2,g3,g4⟩:=jD (w:=w) (S:=S) (β:=β) ht h.ld.bnd (ρ:=a.eval) (λx=>h.eval x) hf hle;have ld:=vZ (w:=w) h.ld.bnd (.cells cells' el);have hsz:cells'.size=len*n:=by rw[g2.1,gC n _ g3,g4]
 have hdl:(zK els).length=len:=by rw[tN,g4]
 have hn:=h.newObj (w':=w.alloc (.cells cells' el)) (b:=w.heap.size) (o:=.arr n (λ_=>zK els)) hfr ld (yX _) (by simp)
  (.inr ⟨w.heap.size,cells',el,xA,heap_alloc_new w _,by grind,λe he=>Z2 els n g3 e he,λi k hi hk'=>by
   (have hi':i<els.length:=by grind);have hlen:(els.getD i []).length=n:=g3 _ (by grind)
   have hfl:i*n+k<(kU els).length:=by
    rw[gC n _ g3]
    calc i*n+k<i*n+n:=by omega
     _=(i+1)*n:=by grind
     _<=_:=uU _ oM
   have hr:=g2.2 (i*n+k) hfl;rw[eE n els g3 i k hi' hk'] at hr;have hck:=eI els hok i k hi' oM;refine⟨?_,?_⟩;{show RepD _ _ _ (((zK els).getD i []).getD k _);rw[i8 els i hi',j8];exact (mV hr (lO hck)).evo (ld.evo h.ld.bnd).same (ld.subs h.ld.bnd)};grind [sT,W5]⟩)
 refine kE (w':=w.alloc (.cells cells' el)) (v:=.slice (some ⟨w.heap.size,0,none⟩) len len) ?_ ?_;{simp[execOp,hop,hrun]}
 ·(rw[hod];have hv:Rep (w.alloc (.cells cells' el)) S (jB β d (some w.heap.size)) (.slice (some ⟨w.heap.size,0,none⟩) len len) (.osl d n (λ_=>0) (λ_=>(zK els).length)):=by have:=Rep.osl (w:=w.alloc (.cells cells' el)) (S:=S) (β:=jB β d (some w.heap.size)) (n:=d) (s:=n) (cap:=len) (b:=w.heap.size) (o:=λ_=>0) (len:=λ_=>(zK els).length) xA oM (heap_alloc_new w _) (by grind);grind);exact hk _ _ _ _ _ hs (hn.putT' d hd hv)
theorem VH {ps:PS}{o:Oper}{t:TypeId}{d:Nat}(hop:o.op=.makeMap t none)(hod:o.dst=some d)(hd:d<N){K:PS->Prop}{Km:Act->World->Prop}{Q:Exit->Act->World->Prop}(h:Sim w0 S0 K0 N (zD ps.tmps) ps.objs a w S β) (hm:MapOk t) (hfr:yO d ps=true) (hs:K ⟨v4 ps.tmps d (.mpv d),ps.objs++[(d,.mp t (λ_=>[]))]⟩) (hk:∀ ps' a' w' S' β',K ps'->Sim w0 S0 K0 N (zD ps'.tmps) ps'.objs a' w' S' β'->Km a' w'):o.wp Pg a w Km Q:=by
 obtain⟨k,e,hty⟩:=hm.h;have ld:=vZ (w:=w) h.ld.bnd (.map #[] 0);have hn:=h.newObj (w':=w.alloc (.map #[] 0)) (b:=w.heap.size) (o:=.mp t (λ_=>[])) hfr ld (yX _) (by simp)
  ⟨w.heap.size,k,e,_,xA,hty,World.ownsMap_made w Pg k _,λx _ z=>by simp[DataW.atKey]⟩
 refine kE (w':=w.alloc (.map #[] 0)) (v:=.map (some w.heap.size)) (by simp only[execOp,hop,Sem.run_bind];rfl) ?_;rw[hod];exact hk _ _ _ _ _ hs (hn.putT' d hd (.mpv xA))
theorem Jh {ps:PS}(h:Sim w0 S0 K0 N (zD ps.tmps) ps.objs a w S β){m:Operand}{n t:Nat}{ks:Unit->List Int}(hm:ev (zD ps.tmps) m=.mpv n)(ho:yK ps.objs n=some (.mp t ks)):∃ (b k e:Nat) (D:DataW Unit),a.eval m=.map (some b)/\β n=some b/\SD t k e/\w.ownsMap Pg k (plainElem Pg e) b (ks ()).length D/\∀ x:Int,(Lit.int .i64 x).wf=true->∀ z:DataW Unit,D.atKey (.int .i64 x) z=if x∈ks () then .lit (.bool true) else z:=by have hr:=h.eval m;rw[hm] at hr;obtain⟨b,hβ,hv⟩:=oV hr;obtain⟨b',k,e,D,hβ',h1,h2,h3⟩:=h.obj.at_ n _ (xG ho);grind
theorem D1 {e:TypeId}(he:Pg.underlying e=some .bool){v:Value}{x:Bool}{ps:List MemPlace}(h:plainElem (H:=Unit) Pg e v=some (.lit (.bool x),ps)):v=.bool x:=by unfold plainElem at h;grind
theorem VA {e:TypeId}(he:ty e=.sc .ff)(w:World):(zeroValue e).run Pg w=.ok (.bool false) w:=by
 obtain⟨i,d,zv,h1,h2,h3,h4,h5,h6,h7,_⟩:=Xs he;have hz:zv=.bool false:=by
  cases zv with
  |bool b=>grind [wT]| pointer p=>grind [wT]| slice a l c=>grind [wT]| _=>simp[wT] at h7
 grind [pD]
theorem QB {ps:PS}{o:Oper}{t:TypeId}{m x:Operand}(hop:o.op=.lookup t m x false)(hd:∀ t,o.dst=some t->t<N){K:PS->Prop}{Km:Act->World->Prop}{Q:Exit->Act->World->Prop}(h:Sim w0 S0 K0 N (zD ps.tmps) ps.objs a w S β) {n:Nat} {ks:Unit->List Int} {k:Unit->Int} (hm:ev (zD ps.tmps) m=.mpv n) (hx:ev (zD ps.tmps) x=.int .i64 k) (ho:yK ps.objs n=some (.mp t ks)) (hkey:KeyOk k) (hs:K (put ps o.dst (.bool (λ_=>decide (k ()∈ks ()))))) (hk:∀ ps' a' w' S' β',K ps'->Sim w0 S0 K0 N (zD ps'.tmps) ps'.objs a' w' S' β'->Km a' w'):o.wp Pg a w Km Q:=by obtain⟨b,kt,e,D,hv,hβ,⟨t1,t2,t3,t4⟩,h2,h3⟩:=Jh h hm ho;have hxv:=h.eval x;rw[hx] at hxv;have hxv:=vX hxv;obtain⟨v,ps',hrun,hval⟩:=h2.lookup (Maps.int_keyed t2) t1 (VA t4 w) (plainElem_bool t3 false) (key:=.int .i64 (k ())) (Maps.keyOf_int_mk t2 hkey.h);rw[h3 _ hkey.h,show (if k ()∈ks () then (DataW.lit (.bool true):DataW Unit) else .lit (.bool false))=.lit (.bool (decide (k ()∈ks ()))) by split <;> simp[*]] at hval;have:=D1 t3 hval;subst this;exact kE (w':=w) (v:=.bool (decide (k ()∈ks ()))) (by simp only[execOp,hop,hv,hxv,Sem.run_bind,hrun,Result.andThen_ok,Sem.run_pure]) (hk _ _ _ _ _ hs (wU h o.dst hd (.c rfl (.bool _))))
theorem YS {ps : PS} {o : Oper} {t : TypeId} {m x y : Operand} (hop : o.op = .mapUpdate t m x y) (hd : ∀ t, o.dst = some t → t < N) {K : PS → Prop} {Km : Act → World → Prop} {Q : Exit → Act → World → Prop} (h : Sim w0 S0 K0 N (zD ps.tmps) ps.objs a w S β)
    {n : Nat} {ks : Unit → List Int} {k : Unit → Int} (hm : ev (zD ps.tmps) m = .mpv n) (hx : ev (zD ps.tmps) x = .int .i64 k) (hy : ev (zD ps.tmps) y = .tt) (ho : yK ps.objs n = some (.mp t ks)) (hkey : KeyOk k) (hroom : MapRoom ks)
    (hs : K (put ⟨ps.tmps, setO ps.objs n (.mp t (fun _ => k () :: ks ()))⟩ o.dst .any))
    (hk : ∀ ps' a' w' S' β', K ps' → Sim w0 S0 K0 N (zD ps'.tmps) ps'.objs a' w' S' β' → Km a' w') : o.wp Pg a w Km Q := by
  obtain ⟨b, kt, e, D, hv, hβ, ⟨t1, t2, t3, t4⟩, h2, h3⟩ := Jh h hm ho
  have hxv := h.eval x
  rw [hx] at hxv
  have hxv := vX hxv
  have hyv := h.eval y
  rw [hy] at hyv
  have hyv := i3 hyv
  have hD := h2.isMap
  obtain ⟨w', hrun, hown, hg⟩ := h2.update (Maps.int_keyed t2) t1 (jJ hroom.h (by decide)) (key := .int .i64 (k ())) (val := .bool true) (Maps.keyOf_int_mk t2 hkey.h) (plainElem_bool t3 true)
  have hmem := xG ho
  obtain ⟨hnS, hlt⟩ := h.obj.un n _ b hmem (.inl hβ)
  obtain ⟨es, cl, hb, _⟩ := h2
  have hsame : ∀ c, c < w.heap.size → c ≠ b → w'.heap[c]? = w.heap[c]? := fun c hc hne => hg.block c hc (fun e => hne (by grind))
  have hbb : ∀ (c : Nat) (us : Array Value) (T : TypeId), w.heap[c]? = some (.cells us T (0, 0)) → w'.heap[c]? = some (.cells us T (0, 0)) := fun c us T hc => by
    grind
  have he : Evo S w w' := ⟨fun c i hS => bK (hsame c (h.ld.bnd c i hS) (fun e => by subst e; exact hnS i hS)) i, fun c us T hc => ⟨us, hbb c us T hc, rfl⟩⟩
  have hn : n ∈ ps.objs.map Prod.fst := y9.2 ⟨_, hmem, rfl⟩
  have nr : ∀ {c}, Own β n (.mp t (fun _ => k () :: ks ())) c → Own β n (.mp t ks) c := fun hc => .inl (xH (o := .mp t (fun _ => k () :: ks ())) (fun _ h => h) hc)
  have key : ∀ {m x c}, (m, x) ∈ Go.Proofs.YtboocdbmnfjomaaGreat.setO ps.objs n (.mp t (fun _ => k () :: ks ())) → Own β m x c → ∃ x', (m, x') ∈ ps.objs ∧ Own β m x' c := by
    intro m x c hx hc
    rcases xS h.obj.nd hn hx with ⟨rfl, rfl⟩ | ⟨_, h2⟩
    all_goals grind
  have hsim : Sim w0 S0 K0 N (zD ps.tmps) (Go.Proofs.YtboocdbmnfjomaaGreat.setO ps.objs n (.mp t (fun _ => k () :: ks ()))) a w' S β := by
    refine ⟨h.dfr, h.sz, ?_, fun t => (h.tmp t).evo he (fun _ _ h => h), ⟨by rw [uD hn]; exact h.obj.nd, ?_, ?_, ?_⟩, ?_, ?_⟩
    · refine ⟨vV h.ld.size hg.size, hg.os.trans h.ld.os, hg.tape.trans h.ld.tape, hg.output.trans h.ld.output, fun c hc hk => ?_, fun c us U hc => ?_, fun c i hS => jJ (h.ld.bnd c i hS) hg.size, h.ld.sub, h.ld.old⟩
      · rw [hsame c (jJ hc h.ld.size) ?_]
        · exact h.ld.same c hc hk
        · rintro rfl
          rcases h.own n _ c hmem (.inl hβ) with h' | h'
          all_goals grind
      · obtain ⟨us', e1, e2⟩ := h.ld.shape c us U hc
        grind
    · intro m x hx
      rcases xS h.obj.nd hn hx with ⟨rfl, rfl⟩ | ⟨h1, h5⟩
      · refine ⟨b, kt, e, _, hβ, ⟨t1, t2, t3, t4⟩, hown, fun z hz y => ?_⟩
        by_cases hzk : z = k ()
        · subst hzk
          rw [Maps.atKey_put_same (k := .int .i64 (k ())) hD trivial]
          simp
        · rw [Maps.atKey_put_other (by grind), h3 z hz y]
          by_cases hzm : z ∈ ks ()
          · rw [if_pos hzm, if_pos (wJ _ hzm)]
          · rw [if_neg hzm, if_neg (fun h => by rcases yR.1 h with h | h; · exact hzk h
                                                · exact hzm h)]
      · refine (h.obj.at_ m x h5).evo he fun c hc => hsame c (h.obj.un m x c h5 hc).2 ?_
        rintro rfl
        exact h1 (h.obj.inj _ _ _ _ c h5 hmem hc (.inl hβ))
    · intro m x c hx hc
      rcases xS h.obj.nd hn hx with ⟨rfl, rfl⟩ | ⟨_, h5⟩
      · have := h.obj.un _ _ c hmem (nr hc)
        exact ⟨fun i hS => this.1 i hS, jJ this.2 hg.size⟩
      · have := h.obj.un m x c h5 hc
        exact ⟨this.1, jJ this.2 hg.size⟩
    · intro m x m' x' c hx hx' hc hc'
      obtain ⟨y, h1, g1⟩ := key hx hc
      obtain ⟨y', h5, g2⟩ := key hx' hc'
      exact h.obj.inj _ _ _ _ c h1 h5 g1 g2
    · intro m x c hx hc
      obtain ⟨y, h1, g1⟩ := key hx hc
      exact h.own m y c h1 g1
    · intro m x hx hb2
      rcases xS h.obj.nd hn hx with ⟨rfl, rfl⟩ | ⟨_, h5⟩
      · exact h.keep m _ hmem hb2
      · exact h.keep m x h5 hb2
  refine oB (w' := w') (by simp only [execOp, hop, hv, hxv, hyv, Sem.run_bind, hrun, Result.andThen_ok, Sem.run_pure]) ?_
  exact hk _ _ _ _ _ hs (wU (ps := ⟨ps.tmps, _⟩) hsim o.dst hd (xV _))
theorem Vk:∀ {els:List (List PV)} {cs:List PV},J9 els=some cs->kU els=cs/\els.length=cs.length
 |[],cs,h=>by cases h;exact⟨rfl,rfl⟩
 |[v]::r,cs,h=>by
  unfold J9 at h;cases hr:J9 r with
  |none=>grind| some l =>
   rw[hr] at h;cases h;obtain⟨h1,h2⟩:=Vk hr;exact⟨by simp[kU,h1],by simp[h2]⟩
 |[]::r,cs,h=>by cases h
 |(_::_::_)::r,cs,h=>by cases h
theorem VN {ps:PS}{o:Oper}{t:TypeId}{len:Nat}{parts:Array (Nat×Operand)}{d:Nat}(hop:o.op=.buildSlice t len parts)(hod:o.dst=some d)(hd:d<N){K:PS->Prop}{Km:Act->World->Prop}{Q:Exit->Act->World->Prop}(h:Sim w0 S0 K0 N (zD ps.tmps) ps.objs a w S β) {n b:Nat} {z:List PV} (ht:ty t=.sli n b z) {cs:List PV} (hn1:n=1) (hf:apK z (sZ n (vJ (ev (zD ps.tmps)) parts.toList) (rZ z len))=some cs) (hl:cs.length=len) (hle:len*n<=1000) (hfr:yO d ps=true) (hcs:wM d cs=true) (hs:K ⟨v4 ps.tmps d (.osl d 1 (λ_=>0) (λ_=>len)),ps.objs++[(d,.box cs)]⟩) (hk:∀ ps' a' w' S' β',K ps'->Sim w0 S0 K0 N (zD ps'.tmps) ps'.objs a' w' S' β'->Km a' w'):o.wp Pg a w Km Q:=by
 subst hn1;unfold apK at hf;split at hf
 rotate_left
 {cases hf};split at hf
 rotate_left
 {cases hf};rename_i els hels;split at hf
 rotate_left
 {cases hf};rename_i cs' hap;split at hf
 rotate_left
 {cases hf};cases hf;obtain⟨e1,e2⟩:=Vk hap;obtain⟨cells',el,hrun,g2,g3,g4⟩:=jD (w:=w) (S:=S) (β:=β) ht h.ld.bnd (ρ:=a.eval) (λx=>h.eval x) hels hle;rw[e1] at g2;have ld:=vZ (w:=w) h.ld.bnd (.cells cells' el);have hn:=h.newObj (w':=w.alloc (.cells cells' el)) (b:=w.heap.size) (o:=.box cs) hfr ld (yX _) (by simp) ⟨w.heap.size,cells',el,xA,heap_alloc_new w _,g2.1,λj hj =>
   ((g2.2 j hj).evo (ld.evo h.ld.bnd) (ld.subs h.ld.bnd)).upd (xU rfl hcs j)⟩
 refine kE (w':=w.alloc (.cells cells' el)) (v:=.slice (some ⟨w.heap.size,0,none⟩) len len) ?_ ?_;{simp[execOp,hop,hrun]}
 ·(rw[hod];have hv:Rep (w.alloc (.cells cells' el)) S (jB β d (some w.heap.size)) (.slice (some ⟨w.heap.size,0,none⟩) len len) (.osl d 1 (λ_=>0) (λ_=>len)):=by have:=Rep.osl (w:=w.alloc (.cells cells' el)) (S:=S) (β:=jB β d (some w.heap.size)) (n:=d) (s:=1) (cap:=len) (b:=w.heap.size) (o:=λ_=>0) (len:=λ_=>len) xA (yX _) (heap_alloc_new w _) (by rw[g2.1,hl,vF];omega);omega);exact hk _ _ _ _ _ hs (hn.putT' d hd hv)
end
end Go.Proofs.YtboocdbmnfjomaaGreat
