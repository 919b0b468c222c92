/- A part of the proof: PmK. -/
import Derived.Test.YtboocdbmnfjomaaGreatV07
set_option linter.all false
namespace Go.Proofs.YtboocdbmnfjomaaGreat
open Go
section
variable {w0:World} {S0:Nat->Nat->Prop} {K0:Nat->Prop} {N:Cx} {τ:Nat->PV} {objs:List (Nat×Obj')} {a:Act} {w w':World} {S S':Nat->Nat->Prop} {β:Bm}
theorem vC {ps:PS}(h:Sim w0 S0 K0 N (zD ps.tmps) ps.objs a w S β)(d:Option Nat)(hd:∀ t,d=some t->t<N){v:Value}{x:PV}(hv:Rep w S β v x):Sim w0 S0 K0 N (zD (put ps d x).tmps) (put ps d x).objs (a.put d v) w S β:=by rw[xJ,kG];exact h.put d hd hv
theorem Sim.putT' {ps:PS}(h:Sim w0 S0 K0 N (zD ps.tmps) objs a w S β)(d:Nat)(hd:d<N){v:Value}{x:PV}(hv:Rep w S β v x):Sim w0 S0 K0 N (zD (vQ ps.tmps d x)) objs (a.put (some d) v) w S β:=by
 have:=h.put (some d) (λt e=>by grind) hv;have e:upd (zD ps.tmps) (some d) x=zD (vQ ps.tmps d x):=by funext t;simp[upd,gH]
 grind
theorem Sim.newObj {ps:PS}(h:Sim w0 S0 K0 N (zD ps.tmps) ps.objs a w S β){n b:Nat}{o:Obj'}(hf:yO n ps=true)(l:Leads w S qJ w' S)(hb:w.heap.size<=b)(hb':b<w'.heap.size) (hat:ObjAt w' S (kY β n (some b)) n o) (hr:∀ i,¬vG o i:=by intro _ hi;exact hi):Sim w0 S0 K0 N (zD ps.tmps) (ps.objs++[(n,o)]) a w' S (kY β n (some b)):=by
 simp only[yO,xA] at hf;have hmem:∀ {m x},(m,x)∈ps.objs++[(n,o)]->((m,x)∈ps.objs/\m≠n)\/(m=n/\x=o):=by intro m x hm;simp only[wZ,fZ] at hm;rcases hm with hm|hm;{exact .inl ⟨hm,(yY hf.2 hm).1⟩};grind
 have hg:=h.go l;refine⟨h.dfr,h.sz,hg.ld,λt=>(hg.tmp t).upd (vP hf.1 t),⟨?_,?_,?_,?_⟩,?_,?_⟩;{rw[qS,l9];refine⟨h.obj.nd,by simp,?_⟩;intro x hx y hy e;simp at hy;subst hy e;obtain⟨⟨m,o⟩,h1,rfl⟩:=y9.1 hx;exact (yY hf.2 h1).1 rfl};{intro m x hm;rcases hmem hm with⟨h1,h2⟩|⟨rfl,rfl⟩;{exact (hg.obj.at_ m x h1).upd h2 (yY hf.2 h1).2};omega};{intro m x c hm hβ;rcases hmem hm with⟨h1,h2⟩|⟨rfl,rfl⟩;{exact hg.obj.un m x c h1 (w9 h2 hβ)};{have hβ:=xF hr hβ;rw[y8] at hβ;cases hβ;exact⟨λi hS=>by have:=h.ld.bnd b i hS;omega,hb'⟩}};{intro m x m' x' c hm hm' hβ hβ';rcases hmem hm with⟨h1,h2⟩|⟨rfl,rfl⟩;{rcases hmem hm' with⟨h3,h4⟩|⟨rfl,rfl⟩;{exact hg.obj.inj _ _ _ _ c h1 h3 (w9 h2 hβ) (w9 h4 hβ')};{have hβ':=xF hr hβ';rw[y8] at hβ';cases hβ';have:=(h.obj.un m x b h1 (w9 h2 hβ)).2;omega}};{rcases hmem hm' with⟨h3,h4⟩|⟨rfl,rfl⟩;{have hβ:=xF hr hβ;rw[y8] at hβ;cases hβ;have:=(h.obj.un m' x' b h3 (w9 h4 hβ')).2;omega};{rfl}}};{intro m x c hm hβ;rcases hmem hm with⟨h1,h2⟩|⟨rfl,rfl⟩;{exact h.own m x c h1 (w9 h2 hβ)};{have hβ:=xF hr hβ;rw[y8] at hβ;cases hβ;have:=h.ld.size;omega}};{intro m x hm hb2;rcases hmem hm with⟨h1,h2⟩|⟨rfl,rfl⟩;{rw[w4 h2];exact h.keep m x h1 hb2};{have:=uL hf.2;omega}}
theorem Kr {lg:Bool}{n s:Nat}{els:Unit->List (List D)}(h:RowAt w S β n s els):ObjAt w S β n (fQ lg s els):=by cases lg <;> exact h
theorem XI (lg:Bool)(s:Nat)(els:Unit->List (List D))(i:Nat):¬vG (fQ lg s els) i:=by cases lg <;> (intro hi;exact hi)
theorem Sl (lg:Bool)(s:Nat)(els:Unit->List (List D)):W8 (fQ lg s els)=some (s,els):=by cases lg <;> rfl
theorem Sim.newNil {ps:PS}(h:Sim w0 S0 K0 N (zD ps.tmps) ps.objs a w S β){lg:Bool}{n s:Nat}{els:Unit->List (List D)}(hf:yO n ps=true)(he:els ()=[]):Sim w0 S0 K0 N (zD ps.tmps) (ps.objs++[(n,fQ lg s els)]) a w S (kY β n none):=h.freshO hf (λβ' h=>Kr (.inl ⟨h,he⟩)) (XI lg s els)
theorem HH {t:Nat}(h:(ty t).isNo=false):∃ i zv,Pg.info? t=some i/\i.zero=some zv/\RepL w S β zv.cells (ty t).zero:=by
 cases ht:ty t with
 |no=>grind [Ty.isNo]| sc z =>
  obtain⟨i,d,zv,h1,h2,h3,h4,h5,h6,h7,_⟩:=Vr ht;refine⟨i,zv,h1,h4,?_⟩;rw[h6,h7];exact jM #[zv]
 |st n fs z =>
  obtain⟨i,fields,zs,h1,h2,h3,h4,h5,h6,h7,_⟩:=Y5 ht;refine⟨i,_,h1,h3,?_⟩;rw[h7];exact jM zs
 |arr len n ag z =>
  obtain⟨i,e,zs,h1,h2,h3,h4,h5,h6,h7,h8,h8',h8'',h9⟩:=iB ht;refine⟨i,_,h1,h3,?_⟩;rw[h9];exact jM zs
 |sli n b z =>
  obtain⟨i,e,j,zv,h1,h2,h3,_⟩:=uK ht;exact⟨i,_,h1,h3,jM #[.slice none 0 0]⟩
theorem oI {o:Oper}{d:Nat}(hod:o.dst=some d)(hd:d<N){cs:List PV}{ps:PS}{K:PS->Prop}{Km:Act->World->Prop}{Q:Exit->Act->World->Prop}(h:Sim w0 S0 K0 N (zD ps.tmps) ps.objs a w S β)(hs:ZC d cs ps K) {cells:Array Value} {T:TypeId} (hr:RepL w S β cells cs) (hrun:(execOp a.eval o).run Pg w=.ok (.value (.pointer (some ⟨w.heap.size,0,none⟩))) (w.alloc (.cells cells T))) (hk:∀ ps' a' w' S' β',K ps'->Sim w0 S0 K0 N (zD ps'.tmps) ps'.objs a' w' S' β'->Km a' w') (hcs:wL d cs=true):o.wp Pg a w Km Q:=by
 unfold ZC at hs;cases hf:yO d ps with
 |false=>grind| true =>
  simp only[hf,cond_true] at hs;have l:=uC (w:=w) h.ld.bnd (.cells cells T);have hn:=h.newObj (w':=w.alloc (.cells cells T)) (b:=w.heap.size) (o:=.box cs) hf l (yQ _) (by simp) ⟨w.heap.size,cells,T,y8,heap_alloc_new w _,hr.1,λj hj =>
   ((hr.2 j hj).evo (l.evo h.ld.bnd) (l.subs h.ld.bnd)).upd (xS rfl hcs j)⟩
  refine jG hrun ?_;rw[hod];exact hk _ _ _ _ _ hs (hn.putT' d hd (.ptr y8))
def wr (cur:Array Value) (pos:Nat) (news:List Value):Array Value:=(cur.toList.take pos++news++cur.toList.drop (pos+news.length)).toArray
theorem eG {cur:Array Value}{pos:Nat}{news:List Value}(h:pos+news.length<=cur.size):(wr cur pos news).size=cur.size:=by grind [wr]
theorem pO {cur:Array Value}{pos:Nat}{news:List Value}(h:pos+news.length<=cur.size)(j:Nat):(wr cur pos news).getD j undef=if pos<=j/\j<pos+news.length then news.getD (j-pos) undef else cur.getD j undef:=by
 have hl:(cur.toList.take pos).length=pos:=by grind
 simp only[wr,GP,List.getElem?_toArray,wM];congr 1;by_cases h1:j<pos;{grind};{by_cases h2:j<pos+news.length;{grind};grind}
theorem fD {b:Nat}{vs vs':Array Value}{T:TypeId}(hS:∀ i,S b i->vs'[i]?=vs[i]?)(hw:w.heap[b]?=some (.cells vs T (0,0)))(hsz:vs'.size=vs.size):Evo S w (w.setRow b vs') where
 same c i hc:=by by_cases e:c=b;{subst e;simp only[World.cell?,setRow_heap w c vs vs' T (0,0) hw,hw];grind};grind [rT,setRow_other]
 shape c us U hc:=by by_cases e:c=b;{grind [setRow_heap]};{exact⟨us,by grind [setRow_other],rfl⟩}
theorem RowAt.evo {n s:Nat}{els:Unit->List (List D)}(h:RowAt w S β n s els)(he:Evo S w w')(hb:∀ b,β n=some b->w'.heap[b]?=w.heap[b]?):RowAt w' S β n s els:=by rcases h with h|⟨b,vs,T,h1,h2,h3,h4,h5⟩;{exact .inl h};{exact .inr ⟨b,vs,T,h1,(hb b h1).trans h2,h3,h4,λi j hi hj=>⟨(h5 i j hi hj).1.evo he.same (λ_ _ h=>h),(h5 i j hi hj).2⟩⟩}
theorem RowIn.evo {ob:Option Nat}{v:Value}{s:Nat}{els:List (List D)}(h:RowIn w S ob v s els)(he:Evo S w w')(hb:∀ b,ob=some b->w'.heap[b]?=w.heap[b]?):RowIn w' S ob v s els:=by rcases h with h|⟨b,cap,us,T,h1,h2,h3,h4,h5,h6,h7⟩;{exact .inl h};{exact .inr ⟨b,cap,us,T,h1,h2,h3,(hb b h1).trans h4,h5,h6,λi j hi hj=>⟨(h7 i j hi hj).1.evo he.same (λ_ _ h=>h),(h7 i j hi hj).2⟩⟩}
theorem ObjAt.evo {n:Nat}{o:Obj'}(h:ObjAt w S β n o)(he:Evo S w w')(hbo:∀ b,Own β n o b->w'.heap[b]?=w.heap[b]?):ObjAt w' S β n o:=by
 have hb:∀ b,β n=some b->w'.heap[b]?=w.heap[b]?:=λb h=>hbo b (.inl h);cases o with
 |box cs =>
  obtain⟨b,vs,T,h1,h2,h3,h4⟩:=h;exact⟨b,vs,T,h1,(hb b h1).trans h2,h3,λj hj=>(h4 j hj).evo he (λ_ _ h=>h)⟩
 |arr s els=>exact RowAt.evo h he hb| log s els=>exact RowAt.evo h he hb| lent s els=>exact⟨RowAt.evo h.1 he hb,h.2⟩| mat s rows hs =>
  obtain⟨hp,h5,h6⟩:=h;refine⟨?_,h5,h6⟩;rcases hp with hp|⟨b,vs,T,h1,h2,h3,h4,h7⟩;{grind};{exact .inr ⟨b,vs,T,h1,(hb b h1).trans h2,h3,λv k hk=>⟨(h4 v k hk).1,(h4 v k hk).2.evo he (λ_ _ h=>h)⟩,λi hi=>(h7 i hi).evo he λb hb'=>hbo b (.inr ⟨i,hi,hb'⟩)⟩}
theorem Sim.writeG (h:Sim w0 S0 K0 N τ objs a w S β){n b:Nat}{o0 o:Obj'}{vs vs':Array Value}{T:TypeId}(hm:(n,o0)∈objs)(hnp:∀ i,¬j3 o0 i)(hβ:β n=some b)(hw:w.heap[b]?=some (.cells vs T (0,0)))(hsz:vs'.size=vs.size) (hat:ObjAt (w.setRow b vs') S β n o) (hown:∀ c,Own β n o c->Own β n o0 c):Sim w0 S0 K0 N τ (Go.Proofs.YtboocdbmnfjomaaGreat.setO objs n o) a (w.setRow b vs') S β:=by
 obtain⟨hnS,hlt⟩:=h.obj.un n o0 b hm (.inl hβ);have he:=fD (w:=w) (vs':=vs') (λi hS=>absurd (hnS i hS) (hnp i)) hw hsz;have hn:n∈objs.map Prod.fst:=y9.2 ⟨_,hm,rfl⟩;have key0:∀ {m x},(m,x)∈Go.Proofs.YtboocdbmnfjomaaGreat.setO objs n o->∃ x',(m,x')∈objs:=by
  intro m x hx;rcases wF h.obj.nd hn hx with⟨rfl,rfl⟩|⟨_,h2⟩
  all_goals grind
 have key:∀ {m x c},(m,x)∈Go.Proofs.YtboocdbmnfjomaaGreat.setO objs n o->Own β m x c->∃ x',(m,x')∈objs/\Own β m x' c:=by
  intro m x c hx hc;rcases wF h.obj.nd hn hx with⟨rfl,rfl⟩|⟨_,h2⟩
  all_goals grind
 refine⟨h.dfr,h.sz,?_,λt=>(h.tmp t).evo he (λ_ _ h=>h),⟨by rw[uN hn];exact h.obj.nd,?_,?_,?_⟩,?_,?_⟩
 ·refine⟨by simpa using h.ld.size,h.ld.os,h.ld.tape,h.ld.output,λc hc hk=>?_,λc us U hc=>?_,λc i hS=>by simpa using h.ld.bnd c i hS,h.ld.sub,h.ld.old⟩
  ·rw[setRow_other w b c vs' ?_];{exact h.ld.same c hc hk}
   ·rintro rfl;rcases h.own n o0 c hm (.inl hβ) with h'|h'
    all_goals grind
  {obtain⟨us',e1,e2⟩:=h.ld.shape c us U hc;obtain⟨us'',e3,e4⟩:=he.shape c us' U e1;grind}
 {intro m x hx;rcases wF h.obj.nd hn hx with⟨rfl,rfl⟩|⟨h1,h2⟩;{exact hat};{refine (h.obj.at_ m x h2).evo he λc hc=>setRow_other w b c vs' ?_;rintro rfl;exact h1 (h.obj.inj _ _ _ _ c h2 hm hc (.inl hβ))}};{intro m x c hx hc;rcases wF h.obj.nd hn hx with⟨rfl,rfl⟩|⟨_,h2⟩;{have:=h.obj.un _ o0 c hm (hown c hc);simp_all};{simpa using h.obj.un m x c h2 hc}};{intro m x m' x' c hx hx' hc hc';obtain⟨y,h1,g1⟩:=key hx hc;obtain⟨y',h2,g2⟩:=key hx' hc';exact h.obj.inj _ _ _ _ c h1 h2 g1 g2};{intro m x c hx hc;obtain⟨y,h1,g1⟩:=key hx hc;exact h.own m y c h1 g1};{intro m x hx hb2;obtain⟨y,h1⟩:=key0 hx;exact h.keep m y h1 hb2}
theorem Sim.write (h:Sim w0 S0 K0 N τ objs a w S β){n b:Nat}{o0 o:Obj'}{vs vs':Array Value}{T:TypeId}(hm:(n,o0)∈objs)(hnp:∀ i,¬j3 o0 i)(hβ:β n=some b)(hw:w.heap[b]?=some (.cells vs T (0,0)))(hsz:vs'.size=vs.size) (hat:ObjAt (w.setRow b vs') S β n o) (hr:∀ i,¬vG o i:=by intro _ hi;exact hi):Sim w0 S0 K0 N τ (Go.Proofs.YtboocdbmnfjomaaGreat.setO objs n o) a (w.setRow b vs') S β :=
 h.writeG hm hnp hβ hw hsz hat λc hc=>.inl (xF hr hc)
theorem mG {t:Nat}(hno:(ty t).isNo=false){b o:Nat}{v:Value}{cur:Array Value}{T:TypeId}(hb:w.heap[b]?=some (.cells cur T (0,0)))(hsz:v.cells.size=(ty t).cells)(hfit:o+v.cells.size<=cur.size) (h1:∀ u∈v.cells.toList,u.oneCell'=true):(Instr.storeAt t (.pointer (some ⟨b,o,none⟩)) v).run Pg w=.ok () (w.setRow b (wr cur o v.cells.toList)):=by
 obtain⟨i,d,hi,hu,hs,ha⟩:=Uk hno;have hst:=run_storeCells_at (P:=Pg) b o T v.cells.toList 0 cur w hb oM h1;simp only[tM] at hst;have e:v.cells.size=i.size:=by omega
 simp only[Instr.storeAt,Instr.sureAddr,storeVar,Sem.run_bind,Sem.run_pure,Result.andThen_ok,vZ hi,e,ne_eq,not_true_eq_false,if_false,hst];rfl
theorem tI {x:PV}{v:Value}(h:Rep w S β v x)(hp:yX tE (yW x)=true):gU x=true:=by
 cases x with
 |agg cs=>rfl| _=>simpa[yW,yX,gU] using hp
theorem B8:∀ {l:List PV},yX o8 l=true->yX tE l=true
 |[],_=>rfl| c::l,h=>by simp only[yX,xA] at h ⊢;exact⟨WC h.1,B8 h.2⟩
theorem ZB {x:PV}{v:Value}(h:Rep w S β v x)(hp:yX tE (yW x)=true):∀ u∈v.cells.toList,u.oneCell'=true:=by
 obtain⟨h1,h2⟩:=j2 h (tI h hp);intro u hu;obtain⟨j,hj,rfl⟩:=List.getElem_of_mem hu;have hj':j<(yW x).length:=by grind
 have hv:j<v.cells.size:=by omega
 have:=sK (h2 j hj') (wV hp j hj');simp_all
theorem dS (v:Value)(j:Nat):v.cells.toList.getD j undef=v.cells.getD j undef:=by simp
theorem G5 {ps:PS}{o:Oper}{t:TypeId}{ad vl:Operand}(hop:o.op=.store t ad vl)(hd:∀ t,o.dst=some t->t<N){K:PS->Prop}{Km:Act->World->Prop}{Q:Exit->Act->World->Prop}(h:Sim w0 S0 K0 N (zD ps.tmps) ps.objs a w S β) {n off:Nat} {cs:List PV} (ha:ev (zD ps.tmps) ad=.ptr n off) (ho:yK ps.objs n=some (.box cs)) (hl:(yW (ev (zD ps.tmps) vl)).length=(ty t).cells) (hle:off+(ty t).cells<=cs.length) (h0:0<(ty t).cells) (hok:yX tE (yW (ev (zD ps.tmps) vl))=true) (hs:K (put ⟨ps.tmps,setO ps.objs n (.box (uV cs off (yW (ev (zD ps.tmps) vl))))⟩ o.dst .any)) (hk:∀ ps' a' w' S' β',K ps'->Sim w0 S0 K0 N (zD ps'.tmps) ps'.objs a' w' S' β'->Km a' w'):o.wp Pg a w Km Q:=by
 have hmem:=xH ho;have hra:=h.eval ad;have hrv:=h.eval vl;rw[ha] at hra;obtain⟨b,hβ,hv⟩:=jH hra;obtain⟨b',vs,T,hβ',hb,hsz,hrr⟩:=UQ h ho;rw[hβ] at hβ';cases hβ';have hno:(ty t).isNo=false:=by cases hty:ty t <;> simp[hty,Ty.cells,Ty.isNo] at h0 ⊢
 have hp:=tI hrv hok;obtain⟨c1,c2⟩:=j2 hrv hp;have hfit:off+(a.eval vl).cells.toList.length<=vs.size:=by grind
 have hrun:=mG (w:=w) (b:=b) (o:=off) hno hb oM oM (ZB hrv hok);have hw:=eG hfit;have hnS:=(h.obj.un n _ b hmem (.inl hβ)).1;have he:=fD (w:=w) (λi hS=>absurd (hnS i hS) id) hb hw;have hsim:=h.write (o:=.box (uV cs off (yW (ev (zD ps.tmps) vl)))) hmem (λi=>id) hβ hb hw ⟨b,_,T,hβ,setRow_heap w b vs _ T _ hb,by grind [kQ],λj hj=>by
  (rw[kQ _ _ _ oM] at hj;rw[pO hfit,sB _ _ _ oM];have e:(a.eval vl).cells.toList.length=(yW (ev (zD ps.tmps) vl)).length:=by omega);rw[e]
  by_cases hr:off<=j/\j<off+(yW (ev (zD ps.tmps) vl)).length;{rw[if_pos hr,if_pos hr,dS];exact (c2 (j-off) oM).evo he (λ_ _ h=>h)}
  ·rw[if_neg hr,if_neg hr];exact (hrr j hj).evo he (λ_ _ h=>h)⟩
 refine YZ (w':=w.setRow b (wr vs off (a.eval vl).cells.toList)) (by simp only[execOp,hop,hv,Sem.run_bind,hrun,Result.andThen_ok,Sem.run_pure]) ?_;exact hk _ _ _ _ _ hs (vC (ps:=⟨ps.tmps,_⟩) hsim o.dst hd (wI _))
theorem KS (l:List (List D))(i k:Nat)(x:List D)(hi:i<l.length):(l.set i x).getD k []=if i=k then x else l.getD k []:=by grind
theorem G6 {ps:PS}{o:Oper}{t:TypeId}{ad vl:Operand}(hop:o.op=.store t ad vl)(hd:∀ t,o.dst=some t->t<N){K:PS->Prop}{Km:Act->World->Prop}{Q:Exit->Act->World->Prop}(h:Sim w0 S0 K0 N (zD ps.tmps) ps.objs a w S β) {n s off:Nat} {i:Unit->Nat} {els:Unit->List (List D)} (ha:ev (zD ps.tmps) ad=.aptr n s i off) (ho:yK ps.objs n=some (.arr s els)) (hl:(yW (ev (zD ps.tmps) vl)).length=(ty t).cells) (hle:off+(ty t).cells<=s) (h0:0<(ty t).cells) (hok:yX o8 (yW (ev (zD ps.tmps) vl))=true) (hs:ElOk s els i (λc=>K (put ⟨ps.tmps,setO ps.objs n (.arr s (λ_=>(els ()).set (i ()) (y7 (uV c off (yW (ev (zD ps.tmps) vl))))))⟩ o.dst .any))) (hk:∀ ps' a' w' S' β',K ps'->Sim w0 S0 K0 N (zD ps'.tmps) ps'.objs a' w' S' β'->Km a' w'):o.wp Pg a w Km Q:=by
 have hmem:=xH ho;have hra:=h.eval ad;have hrv:=h.eval vl;rw[ha] at hra;obtain⟨c,hcf,hcl,hck,hK⟩:=hs.h;have hlt:i ()<(els ()).length:=by grind
 obtain⟨b,hβ,hv⟩:=jA hra;rcases h.obj.at_ n _ hmem with⟨hn,he0⟩|⟨b',vs,T,hβ',hb,hsz,hwid,hrr⟩;{grind};rw[hβ] at hβ';cases hβ'
 have hno:(ty t).isNo=false:=by cases hty:ty t <;> simp[hty,Ty.cells,Ty.isNo] at h0 ⊢
 have hokC:=B8 hok;have hp:=tI hrv hokC;obtain⟨c1,c2⟩:=j2 hrv hp;have hin:i ()*s+s<=(els ()).length*s:=by
  calc i ()*s+s=(i ()+1)*s:=by grind
   _<=_:=uR _ hlt
 have hfit:i ()*s+off+(a.eval vl).cells.toList.length<=vs.size:=by grind
 have hrun:=mG (w:=w) (b:=b) (o:=i ()*s+off) hno hb oM oM (ZB hrv hokC);have hw:=eG hfit;have hnS:=(h.obj.un n _ b hmem (.inl hβ)).1;have he:=fD (w:=w) (λi hS=>absurd (hnS i hS) id) hb hw;have hg:(els ()).getD (i ()) []=y7 c:=by grind
 have hsim:=h.write (o:=.arr s (λ_=>(els ()).set (i ()) (y7 (uV c off (yW (ev (zD ps.tmps) vl)))))) hmem (λi=>id) hβ hb hw (.inr ⟨b,_,T,hβ,setRow_heap w b vs _ T _ hb,by grind,λe hm=>by
  rcases Rw hm with hm|rfl;{grind};grind [fR,kQ],λk j hkl hj=>by
  (simp only[dV] at hkl;rw[pO hfit,KS _ _ _ _ hlt];have e:(a.eval vl).cells.toList.length=(yW (ev (zD ps.tmps) vl)).length:=by omega);rw[e]
  by_cases hki:i ()=k
  ·subst hki;rw[if_pos rfl,fS,sB _ _ _ oM];by_cases hr:off<=j/\j<off+(yW (ev (zD ps.tmps) vl)).length
   ·(rw[if_pos oM,if_pos hr,dS];have e2:i ()*s+j-(i ()*s+off)=j-off:=by omega);rw[e2]
    (have hj2:j-off<(yW (ev (zD ps.tmps) vl)).length:=by omega);exact⟨(mI (c2 (j-off) hj2) (n7 (wV hok _ hj2))).evo he.same (λ_ _ h=>h),sK (c2 (j-off) hj2) (WC (wV hok _ hj2))⟩
   {rw[if_neg oM,if_neg hr];have:=hrr (i ()) j hlt hj;rw[hg,fS] at this;exact⟨this.1.evo he.same (λ_ _ h=>h),this.2⟩}
  ·(rw[if_neg hki];have hout:¬(i ()*s+off<=k*s+j/\k*s+j<i ()*s+off+(yW (ev (zD ps.tmps) vl)).length):=by rcases Nat.lt_or_gt_of_ne hki with hlt'|hgt;{have:(i ()+1)*s<=k*s:=uR _ hlt';grind};{have:(k+1)*s<=i ()*s:=uR _ hgt;grind});rw[if_neg hout];have:=hrr k j hkl hj;exact⟨this.1.evo he.same (λ_ _ h=>h),this.2⟩⟩)
 refine YZ (w':=w.setRow b (wr vs (i ()*s+off) (a.eval vl).cells.toList)) (by simp only[execOp,hop,hv,Sem.run_bind,hrun,Result.andThen_ok,Sem.run_pure]) ?_;exact hk _ _ _ _ _ hK (vC (ps:=⟨ps.tmps,_⟩) hsim o.dst hd (wI _))
theorem G4 {ps:PS}{o:Oper}{t:TypeId}{ad vl:Operand}(hop:o.op=.store t ad vl)(hd:∀ t,o.dst=some t->t<N){K:PS->Prop}{Km:Act->World->Prop}{Q:Exit->Act->World->Prop}(h:Sim w0 S0 K0 N (zD ps.tmps) ps.objs a w S β) {n s:Nat} {i:Unit->Nat} {rows:Unit->List (List (List D))} {hs0:List (PV×(Unit->Nat))} (ha:ev (zD ps.tmps) ad=.aptr n 1 i 0) (ho:yK ps.objs n=some (.mat s rows hs0)) (hl:(ty t).cells=1) (hok:P7 (ev (zD ps.tmps) vl)=true) (hs:StoH hs0 i (ev (zD ps.tmps) vl) (λhs'=>K (put ⟨ps.tmps,setO ps.objs n (.mat s rows hs')⟩ o.dst .any))) (hk:∀ ps' a' w' S' β',K ps'->Sim w0 S0 K0 N (zD ps'.tmps) ps'.objs a' w' S' β'->Km a' w'):o.wp Pg a w Km Q:=by
 have hmem:=xH ho;have hra:=h.eval ad;have hrv:=h.eval vl;rw[ha] at hra;obtain⟨hs1,v0,k,hs2,rfl,hki,hoth,hK⟩:=hs.h;obtain⟨b,hβ,hv⟩:=jA hra;have hM:MatAt w S β n s rows (hs1++(v0,k)::hs2):=h.obj.at_ n _ hmem;rcases hM.pl with⟨_,_,h2⟩|⟨b',vs,T,hβ',hb,hsz,hhs,hrs⟩;{grind};rw[hβ] at hβ';cases hβ'
 have hlt:i ()<(rows ()).length:=by grind
 have hno:(ty t).isNo=false:=by cases hty:ty t <;> simp[hty,Ty.cells,Ty.isNo] at hl ⊢
 generalize hx:ev (zD ps.tmps) vl=x at hrv hok hK;have hc1:yW x=[x]:=by cases x <;> first|rfl|cases hok
 have hokC:yX tE (yW x)=true:=by cases x <;> first|rfl|cases hok
 have hp:=tI hrv hokC;obtain⟨c1,c2⟩:=j2 hrv hp;rw[hc1] at c1 c2;have c2:=c2 0 (by simp);have hlen:(a.eval vl).cells.toList.length=1:=by omega
 have hfit:i ()+(a.eval vl).cells.toList.length<=vs.size:=by omega
 have hrun:=mG (w:=w) (b:=b) (o:=i ()) hno hb (by grind) oM (ZB hrv hokC);have hw:=eG hfit;have hnS:=(h.obj.un n _ b hmem (.inl hβ)).1;have he:=fD (w:=w) (λi hS=>absurd (hnS i hS) id) hb hw;have hrow:∀ {j},vG (.mat s rows (hs1++(x,k)::hs2)) j->vG (.mat s rows (hs1++(v0,k)::hs2)) j/\j≠i ():=by intro j hj;refine⟨⟨hj.1,λv k' hk'=>?_⟩,λe=>hj.2 x k (nA _ vH) oM⟩;rcases wZ.1 hk' with h'|h';{exact hj.2 v k' (Zk _ h')};{rcases yS.1 h' with e|h';{cases e;exact hj.2 x k (nA _ vH)};{exact hj.2 v k' (nA _ (w6 _ h'))}}
 have hg:∀ j,j≠i ()->(wr vs (i ()) (a.eval vl).cells.toList).getD j undef=vs.getD j undef:=by intro j hj;rw[pO hfit,if_neg oM]
 have hg0:(wr vs (i ()) (a.eval vl).cells.toList).getD (i ()) undef=(a.eval vl).cells.getD 0 undef:=by rw[pO hfit,if_pos oM,dS,iA]
 have hsim:=h.writeG (o:=.mat s rows (hs1++(x,k)::hs2)) hmem (λi=>id) hβ hb hw ⟨.inr ⟨b,_,T,hβ,setRow_heap w b vs _ T _ hb,by omega,?_,?_⟩,?_,?_⟩ ?_;{refine YZ (w':=w.setRow b (wr vs (i ()) (a.eval vl).cells.toList)) (by simp only[execOp,hop,hv,Zj,tM,Sem.run_bind,hrun,Result.andThen_ok,Sem.run_pure]) ?_;exact hk _ _ _ _ _ hK (vC (ps:=⟨ps.tmps,_⟩) hsim o.dst hd (wI _))}
 ·intro v k' hk';have hold:∀ {v k'},(v,k')∈hs1++hs2->k' ()<(rows ()).length/\Rep (w.setRow b (wr vs (i ()) (a.eval vl).cells.toList)) S β ((wr vs (i ()) (a.eval vl).cells.toList).getD (k' ()) undef) v:=by
   (intro v k' hk';rw[hg _ (hoth v k' hk')];have hin:(v,k')∈hs1++(v0,k)::hs2:=by rcases wZ.1 hk' with h'|h';{grind};{exact nA _ (w6 _ h')});exact⟨(hhs v k' hin).1,(hhs v k' hin).2.evo he λ_ _ h=>h⟩
  rcases wZ.1 hk' with h'|h';{exact hold (Zk _ h')};{rcases yS.1 h' with e|h';{cases e;rw[hki,hg0];exact⟨hlt,(show Rep w S β _ _ from c2).evo he λ_ _ h=>h⟩};{exact hold (nA _ h')}}
 {intro j hj;obtain⟨h1,h2⟩:=hrow hj;rw[hg j h2];exact (hrs j h1).evo he λc hc=>setRow_other w b c _ (by rintro rfl;exact hM.ne j c h1 hc hβ)};{exact λj j' c hj hj'=>hM.inj j j' c (hrow hj).1 (hrow hj').1};{exact λj c hj=>hM.ne j c (hrow hj).1};{rintro c (e|⟨j,hj,e⟩);{exact .inl e};{exact .inr ⟨j,(hrow hj).1,e⟩}}
theorem XW (z:Array Value)(n j:Nat)(hj:j<n)(hz:0<z.size):(madeCells z n).getD j undef=z.getD (j%z.size) undef:=by have:j%z.size<z.size:=uQ _ hz;simp[madeCells,hj,getElem!_def,Ju this]
theorem Hd {ps:PS}{o:Oper}{t:TypeId}{l c:Operand}{d:Nat}(hop:o.op=.makeSlice t l c)(hod:o.dst=some d)(hd:d<N){K:PS->Prop}{Km:Act->World->Prop}{Q:Exit->Act->World->Prop}(h:Sim w0 S0 K0 N (zD ps.tmps) ps.objs a w S β) {n b:Nat} {z:List PV} (ht:ty t=.sli n b z) {x y:Unit->Int} (hl:ev (zD ps.tmps) l=.int .i64 x) (hc:ev (zD ps.tmps) c=.int .i64 y) (hR:Room y b) (hM:MkOk x y) (hf:yO d ps=true) (hz:yX o8 z=true) (hs:K ⟨vQ ps.tmps d (.osl d n (λ_=>0) (λ_=>(x ()).toNat)),ps.objs++[(d,.arr n (λ_=>List.replicate (x ()).toNat (y7 z)))]⟩) (hk:∀ ps' a' w' S' β',K ps'->Sim w0 S0 K0 N (zD ps'.tmps) ps'.objs a' w' S' β'->Km a' w'):o.wp Pg a w Km Q:=by
 obtain⟨inf,el,j,zv,h1,h2,h3,h4,h5,h6,h7,h8,h9,h10,h11,h12⟩:=uK ht;have hrl:=h.eval l;have hrc:=h.eval c;rw[hl] at hrl;rw[hc] at hrc;have hlv:=vO hrl;have hcv:=vO hrc;have hx0:=hM.lo;have hxy:=hM.hi;have hy0:=hR.lo;have hyb:=hR.hi;have hyle:y ()<=y ()*(b:Int):=by have:y ()*1<=y ()*(b:Int):=Int.mul_le_mul_of_nonneg_left oM hy0;omega
 have hbytes:(j.bytes:Int)*y ()<=281474976710656:=by grind
 have hrun:=run_make (P:=Pg) w t el j zv h4 h5 h6 .i64 .i64 (x ()) (y ()) hx0 hxy hbytes oM;have hsz:(madeCells zv.cells ((y ()).toNat*j.size)).size=(y ()).toNat*n:=by rw[size_madeCells,h7]
 have ld:=uC (w:=w) h.ld.bnd (.cells (madeCells zv.cells ((y ()).toNat*j.size)) el);have hzl:z.length=n:=by grind
 have hz':=jM (w:=w) (S:=S) (β:=β) zv.cells;rw[<-h11] at hz';have hxn:(x ()).toNat<=(y ()).toNat:=by omega
 have hn:=h.newObj (w':=w.alloc (.cells (madeCells zv.cells ((y ()).toNat*j.size)) el)) (b:=w.heap.size) (o:=.arr n (λ_=>List.replicate (x ()).toNat (y7 z))) hf ld (yQ _) (by simp)
  (.inr ⟨w.heap.size,_,el,y8,heap_alloc_new w _,by rw[hsz];simpa using uR n hxn,λe he=>by
   rw[Rv he,fR,hzl],λi k hi hk'=>by
   simp only[GO] at hi;have hlt:i*n+k<(y ()).toNat*n:=by
    calc i*n+k<i*n+n:=by omega
     _=(i+1)*n:=by grind
     _<=_:=uR _ oM
   (have hmod:(i*n+k)%zv.cells.size=k:=by rw[h9,Yq,Nat.add_mul_mod_self_right,kL hk']);have hg:(madeCells zv.cells ((y ()).toNat*j.size)).getD (i*n+k) undef=zv.cells.getD k undef:=by grind [XW]
   (have hrep:(List.replicate (x ()).toNat (y7 z)).getD i []=y7 z:=by simp[hi]);rw[hrep,fS]
   have hr:=hz'.2 k oM;have hck:=wV hz k oM;refine⟨?_,?_⟩;{rw[hg];exact (mI hr (n7 hck)).evo (ld.evo h.ld.bnd).same (ld.subs h.ld.bnd)};grind [sK,WC]⟩)
 refine jG (w':=w.alloc (.cells (madeCells zv.cells ((y ()).toNat*j.size)) el)) (v:=.slice (some ⟨w.heap.size,0,none⟩) (x ()).toNat (y ()).toNat) ?_ ?_;{simp only[execOp,hop,hlv,hcv,Sem.run_bind,hrun,Result.andThen_ok,Sem.run_pure]}
 ·(rw[hod];have hv:Rep (w.alloc (.cells (madeCells zv.cells ((y ()).toNat*j.size)) el)) S (kY β d (some w.heap.size)) (.slice (some ⟨w.heap.size,0,none⟩) (x ()).toNat (y ()).toNat) (.osl d n (λ_=>0) (λ_=>(x ()).toNat)):=by have:=Rep.osl (w:=w.alloc (.cells (madeCells zv.cells ((y ()).toNat*j.size)) el)) (S:=S) (β:=kY β d (some w.heap.size)) (n:=d) (s:=n) (cap:=(y ()).toNat) (b:=w.heap.size) (o:=λ_=>0) (len:=λ_=>(x ()).toNat) y8 hxn (heap_alloc_new w _) (by grind);grind);exact hk _ _ _ _ _ hs (hn.putT' d hd hv)
theorem Kn {x:Option (List (List PV))}{k s:Nat}{o len:Unit->Nat}(h:UO x=some (k,s,o,len)):x=some [[.osl k s o len]]:=by unfold UO at h;grind
theorem WJ {ps:PS}{o:Oper}{t:TypeId}{len:Nat}{parts:Array (Nat×Operand)}{d:Nat}(hop:o.op=.buildSlice t len parts)(hod:o.dst=some d)(hd:d<N){K:PS->Prop}{Km:Act->World->Prop}{Q:Exit->Act->World->Prop}(h:Sim w0 S0 K0 N (zD ps.tmps) ps.objs a w S β) {b:Nat} {z:List PV} (ht:ty t=.sli 1 b z) (hl:len=1) {k s:Nat} {o' len':Unit->Nat} (hf:sS 1 (vA (ev (zD ps.tmps)) parts.toList) (rO z len)=some [[.osl k s o' len']]) (hkd:xN d (.osl k s o' len')=true) (hfr:yO d ps=true) (hs:K ⟨vQ ps.tmps d (.osl d 1 (λ_=>0) (λ_=>1)),ps.objs++[(d,.mat s (λ_=>[[]]) [(.osl k s o' len',λ_=>0)])]⟩) (hk:∀ ps' a' w' S' β',K ps'->Sim w0 S0 K0 N (zD ps'.tmps) ps'.objs a' w' S' β'->Km a' w'):o.wp Pg a w Km Q:=by
 subst hl;obtain⟨cells',el,hrun,g2,g3,g4⟩:=k8 (w:=w) (S:=S) (β:=β) ht h.ld.bnd (ρ:=a.eval) (λx=>h.eval x) hf oM;have ld:=uC (w:=w) h.ld.bnd (.cells cells' el);have hsz:1<=cells'.size:=by have:=g2.1;grind [kO]
 have hc0:Rep w S β (cells'.getD 0 undef) (.osl k s o' len'):=g2.2 0 (by simp[kO]);have hnr:∀ i,¬vG (.mat s (λ_=>[[]]) [(.osl k s o' len',λ_=>0)]) i:=by rintro i ⟨h1,h2⟩;grind
 have hn:=h.newObj (w':=w.alloc (.cells cells' el)) (b:=w.heap.size) (o:=.mat s (λ_=>[[]]) [(.osl k s o' len',λ_=>0)]) hfr ld (yQ _) (by simp)
  ⟨.inr ⟨w.heap.size,cells',el,y8,heap_alloc_new w _,by omega,λv k' hk'=>by simp only[fZ,GQ] at hk';obtain⟨rfl,rfl⟩:=hk';exact⟨by simp,(hc0.evo (ld.evo h.ld.bnd) (ld.subs h.ld.bnd)).upd hkd⟩,λi hi=>absurd hi (hnr i)⟩,λi j b hi=>absurd hi (hnr i),λi b hi=>absurd hi (hnr i)⟩ hnr
 refine jG (w':=w.alloc (.cells cells' el)) (v:=.slice (some ⟨w.heap.size,0,none⟩) 1 1) ?_ ?_;{simp[execOp,hop,hrun]}
 ·(rw[hod];have hv:Rep (w.alloc (.cells cells' el)) S (kY β d (some w.heap.size)) (.slice (some ⟨w.heap.size,0,none⟩) 1 1) (.osl d 1 (λ_=>0) (λ_=>1)):=by have:=Rep.osl (w:=w.alloc (.cells cells' el)) (S:=S) (β:=kY β d (some w.heap.size)) (n:=d) (s:=1) (cap:=1) (b:=w.heap.size) (o:=λ_=>0) (len:=λ_=>1) y8 (yQ _) (heap_alloc_new w _) oM;omega);exact hk _ _ _ _ _ hs (hn.putT' d hd hv)
theorem Qs {ps:PS}{o:Oper}{t:TypeId}{len:Nat}{parts:Array (Nat×Operand)}{d:Nat}(hop:o.op=.buildSlice t len parts)(hod:o.dst=some d)(hd:d<N){K:PS->Prop}{Km:Act->World->Prop}{Q:Exit->Act->World->Prop}(h:Sim w0 S0 K0 N (zD ps.tmps) ps.objs a w S β) {n b:Nat} {z:List PV} (ht:ty t=.sli n b z) (hl:len=0) (hp:UR parts.toList=true) (hfr:yO d ps=true) (hs:K ⟨vQ ps.tmps d (.osl d n (λ_=>0) (λ_=>0)),ps.objs++[(d,.arr n (λ_=>[]))]⟩) (hk:∀ ps' a' w' S' β',K ps'->Sim w0 S0 K0 N (zD ps'.tmps) ps'.objs a' w' S' β'->Km a' w'):o.wp Pg a w Km Q:=by
 subst hl;have hf:sS n (vA (ev (zD ps.tmps)) parts.toList) (rO z 0)=some []:=by
  cases hpl:parts.toList with
  |nil=>rfl| cons x r=>rw[hpl] at hp;cases hp
 obtain⟨cells',el,hrun,g2,g3,g4⟩:=k8 (w:=w) (S:=S) (β:=β) ht h.ld.bnd (ρ:=a.eval) (λx=>h.eval x) hf oM;have ld:=uC (w:=w) h.ld.bnd (.cells cells' el);have hn:=Sim.newNil (ps:=ps) (lg:=false) (n:=d) (s:=n) (els:=λ_=>[]) (h.go ld) hfr rfl;refine jG (w':=w.alloc (.cells cells' el)) (v:=.slice (some ⟨w.heap.size,0,none⟩) 0 0) ?_ ?_;{simp[execOp,hop,hrun]};{rw[hod];exact hk _ _ _ _ _ hs (hn.putT' d hd (.osl0 y8 rfl rfl))}
theorem WI {ps:PS}{o:Oper}{t:TypeId}{len:Nat}{parts:Array (Nat×Operand)}{d:Nat}(hop:o.op=.buildSlice t len parts)(hod:o.dst=some d)(hd:d<N){K:PS->Prop}{Km:Act->World->Prop}{Q:Exit->Act->World->Prop}(h:Sim w0 S0 K0 N (zD ps.tmps) ps.objs a w S β) {n b:Nat} {z:List PV} (ht:ty t=.sli n b z) {els:List (List PV)} (hf:sS n (vA (ev (zD ps.tmps)) parts.toList) (rO z len)=some els) (hle:len*n<=1000) (hok:m5 els=true) (hfr:yO d ps=true) (hs:K ⟨vQ ps.tmps d (.osl d n (λ_=>0) (λ_=>(zI els).length)),ps.objs++[(d,.arr n (λ_=>zI els))]⟩) (hk:∀ ps' a' w' S' β',K ps'->Sim w0 S0 K0 N (zD ps'.tmps) ps'.objs a' w' S' β'->Km a' w'):o.wp Pg a w Km Q:=by
 obtain⟨cells',el,hrun,g2,g3,g4⟩:=k8 (w:=w) (S:=S) (β:=β) ht h.ld.bnd (ρ:=a.eval) (λx=>h.eval x) hf hle;have ld:=uC (w:=w) h.ld.bnd (.cells cells' el);have hsz:cells'.size=len*n:=by rw[g2.1,jZ n _ g3,g4]
 have hdl:(zI els).length=len:=by rw[pZ,g4]
 have hn:=h.newObj (w':=w.alloc (.cells cells' el)) (b:=w.heap.size) (o:=.arr n (λ_=>zI els)) hfr ld (yQ _) (by simp)
  (.inr ⟨w.heap.size,cells',el,y8,heap_alloc_new w _,by grind,λe he=>ZF els n g3 e he,λi k hi hk'=>by
   (have hi':i<els.length:=by grind);have hlen:(els.getD i []).length=n:=g3 _ (by grind)
   have hfl:i*n+k<(kO els).length:=by
    rw[jZ n _ g3]
    calc i*n+k<i*n+n:=by omega
     _=(i+1)*n:=by grind
     _<=_:=uR _ oM
   have hr:=g2.2 (i*n+k) hfl;rw[iS n els g3 i k hi' hk'] at hr;have hck:=iX els hok i k hi' oM;refine⟨?_,?_⟩;{show RepD _ _ _ (((zI els).getD i []).getD k _);rw[iN els i hi',fS];exact (mI hr (n7 hck)).evo (ld.evo h.ld.bnd).same (ld.subs h.ld.bnd)};grind [sK,WC]⟩)
 refine jG (w':=w.alloc (.cells cells' el)) (v:=.slice (some ⟨w.heap.size,0,none⟩) len len) ?_ ?_;{simp[execOp,hop,hrun]}
 ·(rw[hod];have hv:Rep (w.alloc (.cells cells' el)) S (kY β d (some w.heap.size)) (.slice (some ⟨w.heap.size,0,none⟩) len len) (.osl d n (λ_=>0) (λ_=>(zI els).length)):=by have:=Rep.osl (w:=w.alloc (.cells cells' el)) (S:=S) (β:=kY β d (some w.heap.size)) (n:=d) (s:=n) (cap:=len) (b:=w.heap.size) (o:=λ_=>0) (len:=λ_=>(zI els).length) y8 oM (heap_alloc_new w _) (by grind);grind);exact hk _ _ _ _ _ hs (hn.putT' d hd hv)
theorem WQ:∀ {els:List (List PV)} {cs:List PV},Jm els=some cs->kO els=cs/\els.length=cs.length
 |[],cs,h=>by cases h;exact⟨rfl,rfl⟩
 |[v]::r,cs,h=>by
  unfold Jm at h;cases hr:Jm r with
  |none=>grind| some l =>
   rw[hr] at h;cases h;obtain⟨h1,h2⟩:=WQ hr;exact⟨by simp[kO,h1],by simp[h2]⟩
 |[]::r,cs,h=>by cases h
 |(_::_::_)::r,cs,h=>by cases h
theorem Vh {ps:PS}{o:Oper}{t:TypeId}{len:Nat}{parts:Array (Nat×Operand)}{d:Nat}(hop:o.op=.buildSlice t len parts)(hod:o.dst=some d)(hd:d<N){K:PS->Prop}{Km:Act->World->Prop}{Q:Exit->Act->World->Prop}(h:Sim w0 S0 K0 N (zD ps.tmps) ps.objs a w S β) {n b:Nat} {z:List PV} (ht:ty t=.sli n b z) {cs:List PV} (hn1:n=1) (hf:apK z (sS n (vA (ev (zD ps.tmps)) parts.toList) (rO z len))=some cs) (hl:cs.length=len) (hle:len*n<=1000) (hfr:yO d ps=true) (hcs:wL d cs=true) (hs:K ⟨vQ ps.tmps d (.osl d 1 (λ_=>0) (λ_=>len)),ps.objs++[(d,.box cs)]⟩) (hk:∀ ps' a' w' S' β',K ps'->Sim w0 S0 K0 N (zD ps'.tmps) ps'.objs a' w' S' β'->Km a' w'):o.wp Pg a w Km Q:=by
 subst hn1;unfold apK at hf;split at hf
 rotate_left
 {cases hf};split at hf
 rotate_left
 {cases hf};rename_i els hels;split at hf
 rotate_left
 {cases hf};rename_i cs' hap;split at hf
 rotate_left
 {cases hf};cases hf;obtain⟨e1,e2⟩:=WQ hap;obtain⟨cells',el,hrun,g2,g3,g4⟩:=k8 (w:=w) (S:=S) (β:=β) ht h.ld.bnd (ρ:=a.eval) (λx=>h.eval x) hels hle;rw[e1] at g2;have ld:=uC (w:=w) h.ld.bnd (.cells cells' el);have hn:=h.newObj (w':=w.alloc (.cells cells' el)) (b:=w.heap.size) (o:=.box cs) hfr ld (yQ _) (by simp) ⟨w.heap.size,cells',el,y8,heap_alloc_new w _,g2.1,λj hj =>
   ((g2.2 j hj).evo (ld.evo h.ld.bnd) (ld.subs h.ld.bnd)).upd (xS rfl hcs j)⟩
 refine jG (w':=w.alloc (.cells cells' el)) (v:=.slice (some ⟨w.heap.size,0,none⟩) len len) ?_ ?_;{simp[execOp,hop,hrun]}
 ·(rw[hod];have hv:Rep (w.alloc (.cells cells' el)) S (kY β d (some w.heap.size)) (.slice (some ⟨w.heap.size,0,none⟩) len len) (.osl d 1 (λ_=>0) (λ_=>len)):=by have:=Rep.osl (w:=w.alloc (.cells cells' el)) (S:=S) (β:=kY β d (some w.heap.size)) (n:=d) (s:=1) (cap:=len) (b:=w.heap.size) (o:=λ_=>0) (len:=λ_=>len) y8 (yQ _) (heap_alloc_new w _) (by rw[g2.1,hl,wQ];omega);omega);exact hk _ _ _ _ _ hs (hn.putT' d hd hv)
end
end Go.Proofs.YtboocdbmnfjomaaGreat
