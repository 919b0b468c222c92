/- A part of the proof: PmQ, PmR. -/
import Derived.Test.YtfainocfaddbdaaGreatT13
import Derived.Deep.LoopGhost
import Derived.Scope
set_option linter.all false
namespace Go.Proofs.YtfainocfaddbdaaGreat
open Go
def uQ (N:Nat):Code->Bool
 |.region _ ops _=>ops.toList.all (d7 N)| .seq a b=>uQ N a&&uQ N b| .cond _ a b=>uQ N a&&uQ N b| .block _ b=>uQ N b| .loop b=>uQ N b| .scope b=>uQ N b| _=>true
theorem oB:Pg.follows .mixedOrders=true:=by rw[xX];rfl
section
variable {w0:World} {S0:Nat->Nat->Prop} {K0:Nat->Prop} {N:Cx}
def Meet (w0:World) (S0:Nat->Nat->Prop) (K0:Nat->Prop) (N:Cx) {σ:Type} (inv:σ->PS) (good:σ->Prop) (Q:Exit->PS->Prop):Exit->Act->World->Prop:=fun e a w=>match e with
 |.normal=>∃ s S β,good s/\Sim w0 S0 K0 N (zB (inv s).tmps) (inv s).objs a w S β| e=>∃ ps S β,Q e ps/\Sim w0 S0 K0 N (zB ps.tmps) ps.objs a w S β
theorem zHU {σ:Type}{inv:σ->PS}{good:σ->Prop}{Q:Exit->PS->Prop}:∀ e ps' a' w' S' β',zEP inv good Q e ps'->Sim w0 S0 K0 N (zB ps'.tmps) ps'.objs a' w' S' β'->Meet w0 S0 K0 N inv good Q e a' w':=by
 intro e ps' a' w' S' β' hq hs;cases e with
 |normal =>
  obtain⟨s,hg,hw⟩:=hq;obtain⟨S2,β2,h2⟩:=hw.sound hs;exact⟨s,S2,β2,hg,h2⟩
 |exit i=>exact⟨ps',S',β',hq,hs⟩| goto l=>exact⟨ps',S',β',hq,hs⟩| ret=>exact⟨ps',S',β',hq,hs⟩| panic ch=>exact⟨ps',S',β',hq,hs⟩| outgrown=>exact⟨ps',S',β',hq,hs⟩
theorem meet {σ:Type}{inv:σ->PS}{good:σ->Prop}{Q:Exit->PS->Prop}{QM:Exit->Act->World->Prop}(hk:∀ e ps' a' w' S' β',Q e ps'->Sim w0 S0 K0 N (zB ps'.tmps) ps'.objs a' w' S' β'->QM e a' w') (hJ:∀ s,good s->Q .normal (inv s)):∀ e a w,Meet w0 S0 K0 N inv good Q e a w->QM e a w:=by
 intro e a w h;cases e with
 |normal=>obtain⟨s,S,β,hg,hs⟩:=h;exact hk _ _ _ _ _ _ (hJ s hg) hs
 |exit i=>obtain⟨ps,S,β,hq,hs⟩:=h;exact hk _ _ _ _ _ _ hq hs
 |goto l=>obtain⟨ps,S,β,hq,hs⟩:=h;exact hk _ _ _ _ _ _ hq hs
 |ret=>obtain⟨ps,S,β,hq,hs⟩:=h;exact hk _ _ _ _ _ _ hq hs
 |panic ch=>obtain⟨ps,S,β,hq,hs⟩:=h;exact hk _ _ _ _ _ _ hq hs
 |outgrown=>obtain⟨ps,S,β,hq,hs⟩:=h;exact hk _ _ _ _ _ _ hq hs
theorem zHX:∀ (c:Code),uQ N c=true->∀ {ps:PS} {Q:Exit->PS->Prop} {a:Act} {w:World} {S:Nat->Nat->Prop} {β:Bm} {QM:Exit->Act->World->Prop},Sim w0 S0 K0 N (zB ps.tmps) ps.objs a w S β->wp c ps Q->(∀ e ps' a' w' S' β',Q e ps'->Sim w0 S0 K0 N (zB ps'.tmps) ps'.objs a' w' S' β'->QM e a' w')->c.wp Pg QM a w:=by
 intro c;induction c with
 |skip=>intro _ ps Q a w S β QM h hs hk;exact wp_skip (hk _ _ _ _ _ _ hs h)| region id ops draw =>
  intro hc ps Q a w S β QM h hs hk;simp only[uQ,List.all_eq_true] at hc;cases draw with
  |false =>
   simp only[wp] at hs;refine wp_region_list ?_;have hgo:v8 ops.toList ops.toList ps (Q .normal)->_:=fun hs=>f7 (Q:=QM) (K:=Q .normal) (fun ps' a' w' S' β' hq hsim=>hk _ _ _ _ _ _ hq hsim) ops.toList hc h hs;split at hs;{rcases hs.h with hs|⟨σ,inv,good,h1,h2⟩;{simpa using hgo hs};{have:=f7 (Q:=QM) (K:=fun ps'=>∃ s,good s/\Wk ps' (inv s)) (fun ps' a' w' S' β' hq hsim=>by obtain⟨s,g,k⟩:=hq;obtain⟨S2,β2,h3⟩:=k.sound hsim;exact hk _ _ _ _ _ _ (h2 s g) h3) ops.toList hc h h1;simpa using this}};{simpa using hgo hs}
  |true =>
   simp only[wp] at hs;refine wp_region_any oB ?_;have:=zEE hs (Q:=QM) hc (fun ps' a' w' S' β' hq hsim=>hk _ _ _ _ _ _ hq hsim) h;simpa using this
 |seq x y ihx ihy =>
  intro hc ps Q a w S β QM h hs hk;simp only[uQ,Bool.and_eq_true] at hc;simp only[wp] at hs;refine Go.wp_seq (ihx hc.1 h hs ?_);intro e ps' a' w' S' β' hq hsim;cases e with
  |normal=>exact ihy hc.2 hsim hq hk| exit i=>exact hk _ _ _ _ _ _ hq hsim| goto l=>exact hk _ _ _ _ _ _ hq hsim| ret=>exact hk _ _ _ _ _ _ hq hsim| panic ch=>exact hk _ _ _ _ _ _ hq hsim| outgrown=>exact hk _ _ _ _ _ _ hq hsim
 |cond x y z ihy ihz =>
  intro hc ps Q a w S β QM h hs hk;simp only[uQ,Bool.and_eq_true] at hc;have hr:=h.eval x;simp only[wp] at hs;split at hs;{rename_i hx;rw[hx] at hr;exact wp_cond_true (tM hr) (ihy hc.1 h hs hk)};{rename_i hx;rw[hx] at hr;exact wp_cond_false (tN hr) (ihz hc.2 h hs hk)};{rename_i b hx;rw[hx] at hr;rcases hs.h with hs|⟨σ,inv,good,hA,hB,hJ⟩;{exact wp_cond_split (gZ hr) (fun e=>ihy hc.1 h (hs.1 e) hk) (fun e=>ihz hc.2 h (hs.2 e) hk)};{exact wp_cond_split (gZ hr) (fun e=>Code.wp_mono (meet hk hJ) (ihy hc.1 h (hA e) zHU)) (fun e=>Code.wp_mono (meet hk hJ) (ihz hc.2 h (hB e) zHU))}};{rename_i b hx;rw[hx] at hr;rcases hs.h with hs|⟨σ,inv,good,hA,hB,hJ⟩;{exact wp_cond_split (gF hr) (fun e=>ihy hc.1 h (hs.2 (by simpa using e)) hk) (fun e=>ihz hc.2 h (hs.1 (by simpa using e)) hk)};{exact wp_cond_split (gF hr) (fun e=>Code.wp_mono (meet hk hJ) (ihy hc.1 h (hB (by simpa using e)) zHU)) (fun e=>Code.wp_mono (meet hk hJ) (ihz hc.2 h (hA (by simpa using e)) zHU))}};{exact hs.elim}
 |block id b ih =>
  intro hc ps Q a w S β QM h hs hk;simp only[uQ] at hc;simp only[wp] at hs;refine Go.wp_block (ih hc h hs ?_);intro e ps' a' w' S' β' hq hsim;cases e with
  |exit i =>
   simp only[Exit.inBlock];cases hb:nqb i id with
   |true =>
    have:=yC hb;subst this;simp only[hb,cond_true] at hq;rw[if_pos rfl];exact hk _ _ _ _ _ _ hq hsim
   |false =>
    (have hne:i≠id:=fun e=>by subst e;simp at hb);simp only[hb,cond_false] at hq
    rw[if_neg hne];exact hk _ _ _ _ _ _ hq hsim
  |normal=>exact hk _ _ _ _ _ _ hq hsim| goto l=>exact hk _ _ _ _ _ _ hq hsim| ret=>exact hk _ _ _ _ _ _ hq hsim| panic ch=>exact hk _ _ _ _ _ _ hq hsim| outgrown=>exact hk _ _ _ _ _ _ hq hsim
 |exit id=>intro _ ps Q a w S β QM h hs hk;exact wp_exit (hk _ _ _ _ _ _ hs h)| label l=>intro _ ps Q a w S β QM h hs hk;exact wp_label (hk _ _ _ _ _ _ hs h)| scope b ih =>
  intro hc ps Q a w S β QM h hs hk;simp only[uQ] at hc;simp only[wp] at hs;refine Go.wp_scope_straight (ih hc h hs ?_);intro e ps' a' w' S' β' hq hsim;cases e with
  |goto l=>exact hq.elim| normal=>exact hk _ _ _ _ _ _ hq hsim| exit i=>exact hk _ _ _ _ _ _ hq hsim| ret=>exact hk _ _ _ _ _ _ hq hsim| panic ch=>exact hk _ _ _ _ _ _ hq hsim| outgrown=>exact hk _ _ _ _ _ _ hq hsim
 |ret=>intro _ ps Q a w S β QM h hs hk;exact wp_ret (hk _ _ _ _ _ _ hs h)| loop b ih =>
  intro hc ps Q a w S β QM h hs hk;simp only[uQ] at hc;simp only[wp] at hs;obtain⟨σ,inv,good,mu,s0,hg,hw,hround⟩:=hs.h;obtain⟨S1,β1,h1⟩:=hw.sound h;refine wp_loop_ghost (fun n a w=>∃ s S β,good s/\mu s=n/\Sim w0 S0 K0 N (zB (inv s).tmps) (inv s).objs a w S β) (mu s0) ⟨s0,S1,β1,hg,rfl,h1⟩ ?_;rintro n a' w' ⟨s,S2,β2,hgs,rfl,hsim⟩;refine ih hc hsim (hround s hgs) ?_;intro e ps' a2 w2 S3 β3 hq hsim2;cases e with
  |normal =>
   obtain⟨s',hg',hmu,hwk⟩:=hq;obtain⟨S4,β4,h4⟩:=hwk.sound hsim2;exact⟨mu s',hmu,s',S4,β4,hg',rfl,h4⟩
  |exit i=>exact hk _ _ _ _ _ _ hq hsim2| goto l=>exact hk _ _ _ _ _ _ hq hsim2| ret=>exact hk _ _ _ _ _ _ hq hsim2| panic ch=>exact hk _ _ _ _ _ _ hq hsim2| outgrown=>exact hk _ _ _ _ _ _ hq hsim2
 |_=>intro _ ps Q a w S β QM h hs hk;simp only[wp] at hs
theorem zG4 {w:World}{S:Nat->Nat->Prop}{β:Bm}{t:Nat}{cs:List PV}{off:Nat}{pv:PV}(h:rdV (ty t) cs off=some pv){b o:Nat}(vals:Nat->Value) (hc:∀ j,j<cs.length->w.cell? ⟨b,o+j,none⟩=some (vals j)) (hr:∀ j,j<cs.length->Rep w S β (vals j) (cs.getD j .any)):∃ val,(loadVar t ⟨b,o+off,none⟩).run Pg w=.ok val w/\Rep w S β val pv:=by
 have hk:rdK (ty t) cs off (fun v=>v=pv):=by
  unfold rdV at h;unfold rdK;cases hno:(ty t).isNo with
  |true=>simp[hno] at h| false =>
   simp only[hno,cond_false] at h ⊢;cases hle:nle (off+(ty t).cells) cs.length with
   |false=>simp[hle] at h| true=>simp only[hle,cond_true,Option.some.injEq] at h ⊢;exact h
 obtain⟨pv',val,h1,h2,h3⟩:=dO hk vals hc hr;subst h1;exact⟨val,by simpa[Instr.loadAt,Instr.sureAddr] using h2,h3⟩
def lL (tmps:Array Value):ResultVar->Sem Value
 |.tmp t=>pure (tmps.getD t undef)| .cell a t=>do loadVar t (<-asAddr (tmps.getD a undef))
theorem zD3 (fn:Func)(tmps:Array Value):results fn tmps=(do let vs <-fn.results.mapM (lL tmps);pure (if h:vs.size=1 then vs[0] else .tuple vs)):=by unfold results;congr 2
theorem sS {ps:PS}{a:Act}{w:World}{S:Nat->Nat->Prop}{β:Bm}(h:Sim w0 S0 K0 N (zB ps.tmps) ps.objs a w S β):∀ (rs:List ResultVar) {l:List PV},gV ps rs=some l ->∃ vs:List Value,(rs.mapM (lL a.tmps):Sem (List Value)).run Pg w=.ok vs w/\RepL w S β vs.toArray l
 |[],l,he=>by simp only[gV,Option.some.injEq] at he;subst he;exact⟨[],rfl,rfl,fun j hj=>by simp at hj⟩| .tmp t::r,l,he=>by
  simp only[gV] at he;split at he
  ·rename_i l' hl';simp only[Option.some.injEq] at he;subst he;obtain⟨vs,h1,h2⟩:=sS h r hl';refine⟨a.tmps.getD t undef::vs,by rw[List.mapM_cons,Sem.run_bind];simp only[lL,Sem.run_pure,Result.andThen_ok,Sem.run_bind,h1],by simpa using h2.1,fun j hj=>?_⟩;cases j with
   |zero=>simpa using h.tmp t| succ j=>simpa using h2.2 j (by simpa using hj)
  {cases he}
 |.cell x t::r,l,he=>by
  simp only[gV] at he;split at he
  ·rename_i n off hx;split at he
   ·rename_i cs ho;split at he
    ·rename_i v l' hv hl';simp only[Option.some.injEq] at he;subst he;obtain⟨vs,h1,h2⟩:=sS h r hl';have hr:=h.tmp x;rw[hx] at hr;obtain⟨b,hβ,hv'⟩:=uF hr;obtain⟨b',us,T,hβ',hb,hsz,hrr⟩:=zA5 h ho;rw[hβ] at hβ';cases hβ';obtain⟨val,h3,h4⟩:=zG4 (w:=w) (S:=S) (β:=β) (b:=b) (o:=0) hv (fun j=>us.getD j undef) (fun j hj=>by rw[Nat.zero_add];exact vM hb j (by omega)) hrr;rw[Nat.zero_add] at h3;refine⟨val::vs,?_,by simpa using h2.1,fun j hj=>?_⟩
     ·(rw[List.mapM_cons];have e:(lL a.tmps (.cell x t)).run Pg w=.ok val w:=by simp only[lL,Sem.run_bind,hv',asAddr,Sem.run_pure,Result.andThen_ok,h3]);simp only[Sem.run_bind,e,Sem.run_pure,Result.andThen_ok,h1]
     ·cases j with
      |zero=>simpa using h4| succ j=>simpa using h2.2 j (by simpa using hj)
    {cases he}
   {cases he}
  {cases he}
theorem eX {fn:Func}{ps:PS}{a:Act}{w:World}{S:Nat->Nat->Prop}{β:Bm}(h:Sim w0 S0 K0 N (zB ps.tmps) ps.objs a w S β){l:List PV}(hl:gV ps fn.results.toList=some l):∃ v,(results fn a.tmps).run Pg w=.ok v w/\Rep w S β v (r8 l):=by
 obtain⟨vs,h1,h2⟩:=sS h _ hl;refine⟨if h:vs.toArray.size=1 then vs.toArray[0] else .tuple vs.toArray,?_,?_⟩;{rw[zD3,Array.mapM_eq_mapM_toList,Sem.run_bind,Sem.run_map,h1];rfl}
 ·by_cases h3:vs.toArray.size=1
  ·rw[dif_pos h3];have h4:l.length=1:=by rw[<-h2.1];exact h3
   match l,h4 with
   |[x],_ =>
    have:=h2.2 0 (by simp);simp only[r8];simpa[h3] using this
  ·(rw[dif_neg h3];have h4:l.length≠1:=by rw[<-h2.1];exact h3);have:r8 l=.tup l:=by
    match l with
    |[]=>rfl| [x]=>simp at h4| x::y::r=>rfl
   rw[this];exact .tup h2.1 h2.2
theorem iK {h:Nat->Nat}:∀ {l:List (Nat×Obj')},iL h l->∀ {n o},(n,o)∈l->h n=n/\1000000<=n
 |(m,x)::r,H,n,o,hm=>by simp only[List.mem_cons] at hm;rcases hm with hm|hm;{cases hm;exact H.1};{exact iK H.2 hm}
theorem r9 {h:Nat->Nat}:∀ {l:List Nat},(l.map h).Nodup->l.Nodup
 |[],_=>List.nodup_nil| x::r,hnd=>by simp only[List.map_cons,List.nodup_cons] at hnd ⊢;exact⟨fun hx=>hnd.1 (List.mem_map.2 ⟨x,hx,rfl⟩),r9 hnd.2⟩
def eP:Nat->List PV->List (Nat×PV)
 |_,[]=>[]| k,v::r=>(k,v)::eP (k+1) r
theorem o9:∀ (l:List PV) (k t:Nat),zB (eP k l) t=if k<=t/\t<k+l.length then l.getD (t-k) .any else .any
 |[],k,t=>by simp[eP,zB]| v::r,k,t=>by
  simp only[eP,zB];by_cases h:k=t;{subst h;simp}
  ·rw[nbeq h];simp only[];rw[o9 r (k+1) t];by_cases h2:k+1<=t/\t<k+1+r.length
   ·(rw[if_pos h2,if_pos (by simp only[List.length_cons];omega)];have:t-k=(t-(k+1))+1:=by omega);rw[this,List.getD_cons_succ]
   {rw[if_neg h2,if_neg (by simp only[List.length_cons];omega)]}
theorem zH5 {f : FuncId} {fn : Func} {c : Code} (hf : Pg.funcs[f]? = some fn) (hb : fn.body = some c) (hname : (fn.name == "runtime.NumGoroutine") = false) (hN : uQ fn.ntmps c = true) {args : List PV} (hargs : nle args.length fn.ntmps = true) {kept eaten:List (Nat × Obj')} {r:PV} {kept' made:List (Nat × Obj')} (hnk:kept'.map Prod.fst=kept.map Prod.fst) (hwp:wp c ⟨eP 0 args,kept++eaten⟩ (bK fn.results.toList r kept' made)):Sound f args kept eaten r kept' made where
 isf vals w:=by
  (have hn : ¬ fn.name = "runtime.NumGoroutine" := by simpa using hname);simp[callFunc,hf,hn,hb]
 go w S β vals hbnd hobj hsz hrep:=by
  have hal:=bO hargs;refine calls_of_wp hf hb ?_;have hsim:Sim w S (Blk β (kept++eaten)) ⟨fn.ntmps,β⟩ (zB (eP 0 args)) (kept++eaten) { tmps:=vals++Array.replicate (fn.ntmps-vals.size) undef,defers:=[] } w S β:=by
   refine⟨rfl,by simp[hsz];omega,⟨Nat.le_refl _,rfl,rfl,rfl,fun _ _ _=>rfl,fun b vs T h=>⟨vs,h,rfl⟩,hbnd,fun _ _ _ h=>h,fun _ _ _ _ h=>h⟩,fun t=>?_,hobj,fun n o b hm hβ=>.inr ⟨n,o,hm,hβ⟩,fun _ _ _ _=>rfl⟩;rw[o9];by_cases h:t<args.length
   ·(rw[if_pos (by omega)];have h1:=hrep t h;have hlt:t<vals.size:=by omega);simpa[Array.getElem?_append_left hlt] using h1
   {rw[if_neg (by omega)];exact xL _}
  refine zHX c hN hsim hwp ?_;have fin:∀ ps' a' w' S' β',RetOk fn.results.toList r kept' made ps'->Sim w S (Blk β (kept++eaten)) ⟨fn.ntmps,β⟩ (zB ps'.tmps) ps'.objs a' w' S' β' ->
    a'.defers=[]/\∃ v,(results fn a'.tmps).run Pg w'=.ok v w'/\(∃ v' S' β',Ending.returned v=.returned v'/\Leads w S (Blk β (kept++eaten)) w' S'/\Rep w' S' β' v' r/\ObjsAt w' S' β' (kept'++made) /\
   (kept'.map Prod.fst=kept.map Prod.fst)/\(∀ n o,(n,o)∈kept->β' n=β n) /\
   (∀ n o b,(n,o)∈kept'++made->Own β' n o b->w.heap.size<=b\/Blk β (kept++eaten) b)):=by
   intro ps1 a' w' S1 β1 hr h1;obtain⟨ps',l,hn,hw,hl,hle,hlv,hobjs,hnd,hkid⟩:=hr.h;obtain⟨S2,β2,h2⟩:=hw.sound h1;obtain⟨v,h3,h4⟩:=eX h2 hl;have hmem:∀ {n o},(n,o)∈kept'++made->(hn n,xD (ren hn) o)∈ps'.objs/\j4 o=true:=fun hm=>bV hobjs hm;have hndn:=uT hnd;have fstH:∀ {n o},(n,o)∈kept'++made->∀ {m o'},(m,o')∈kept'++made->hn n=hn m->n=m:=fun hm _ _ hm' he=>aI hndn hm hm' he;refine⟨h2.dfr,v,h3,v,S2,β2.ren hn,rfl,h2.ld,zB0 (h4.le _ hle) hlv,⟨?_,fun n o hm=>zFQ (hmem hm).2 (h2.obj.at_ _ _ (hmem hm).1),fun n o b hm hβ=>?_,
    fun n o m o' b hm hm' hβ hβ'=>fstH hm hm' (h2.obj.inj _ _ _ _ b (hmem hm).1 (hmem hm').1 (f6.1 hβ) (f6.1 hβ'))⟩,hnk,fun n o hm=>?_,fun n o b hm hβ=>h2.own _ _ b (hmem hm).1 (f6.1 hβ)⟩
   {rw[kC] at hndn;exact r9 hndn};{obtain⟨h5,h6⟩:=h2.obj.un _ _ b (hmem hm).1 (f6.1 hβ);exact⟨fun i hS=>absurd (h5 i hS) (oW (hmem hm).2),h6⟩};{obtain⟨o',hm'⟩:=nM hnk.symm hm;obtain⟨e1,e2⟩:=iK hkid hm';have:=h2.keep n _ (by have:=(hmem (List.mem_append_left made hm')).1;rwa [e1] at this) e2;show β2 (hn n)=β n;rw[e1];exact this}
  intro e ps' a' w' S' β' hq hs';cases e with
  |normal=>exact fin _ _ _ _ _ hq hs'| ret=>exact fin _ _ _ _ _ hq hs'| exit i=>exact hq.elim| goto l=>exact hq.elim| panic ch=>exact hq.elim| outgrown=>exact hq.elim
end
def mI (f:Func):Code:=f.body.getD .skip
theorem yH {f : FuncId} {fn : Func} (hf : Pg.funcs[f]? = some fn) (hb : fn.body.isSome = true) (hname : (fn.name == "runtime.NumGoroutine") = false) (hN : uQ fn.ntmps (mI fn) = true) {args : List PV} (hargs : nle args.length fn.ntmps = true) {kept eaten:List (Nat × Obj')} {r:PV} {kept' made:List (Nat × Obj')} (hnk:kept'.map Prod.fst=kept.map Prod.fst) (hwp:wp (mI fn) ⟨eP 0 args,kept++eaten⟩ (bK fn.results.toList r kept' made)):Sound f args kept eaten r kept' made:=by
 obtain⟨c,hc⟩:=Option.isSome_iff_exists.1 hb;have:mI fn=c:=by simp[mI,hc]
 rw[this] at hN hwp;exact zH5 hf hc hname hN hargs hnk hwp
theorem wA {g as_ dst ps K f caps args' r}(h1:ev (zB ps.tmps) g=.fn f caps)(h2:kP les (evs (ev (zB ps.tmps)) as_++caps) args')(h3:zM f args' r)(h5:nmIn [] r=true)(h4:K (put ps dst r)):CallOk g as_ dst ps K :=
 ⟨ps,.refl ps,f,caps,h1,.inl ⟨args',r,cL h2,h3,h5,h4⟩⟩
theorem uI {rs:List ResultVar}{r:PV}{ps:PS}{l:List PV}(h1:gV ps rs=some l)(h2:les (r8 l) (ren id r))(h3:lv r=true):RetOk rs r [] [] ps :=
 ⟨ps,l,id,.refl ps,h1,fG h2,h3,trivial,rfl,trivial⟩
theorem retC {rs:List ResultVar}{r:PV}{ps:PS}(h3:lv r=true)(h:match gV ps rs with
  |some l=>les (r8 l) (ren id r)| none=>False):RetOk rs r [] [] ps:=by
 cases h1:gV ps rs with
 |none=>rw[h1] at h;exact h.elim| some l=>rw[h1] at h;exact uI h1 h h3
theorem yB {B:PS->(Exit->PS->Prop)->Prop}{ps:PS}{Q:Exit->PS->Prop}{σ:Type}(inv:σ->PS)(good:σ->Prop)(mu:σ->Nat)(s0:σ)(h0:good s0)(hw:Wk ps (inv s0)) (hr:∀ s,good s->B (inv s) (fun e ps'=>match e with
   |.normal=>∃ s',good s'/\mu s'<mu s/\Wk ps' (inv s')| e=>Q e ps')):LoopOk B ps Q:=⟨⟨σ,inv,good,mu,s0,h0,hw,hr⟩⟩
theorem zNL (v:PV):rn0 id v=v:=by cases v <;> rfl
theorem nI {f:PV->PV}(h:∀ v,f v=v):∀ (l:List PV),x6 f l=l
 |[]=>rfl| v::r=>by simp only[x6,h v,nI h r]
theorem zNK (v:PV):rn1 id v=v:=by cases v <;> simp only[rn1,rn0,nI zNL,id]
theorem zJO (v:PV):ren id v=v:=by cases v <;> simp only[ren,rn0,nI zNK,id]
theorem zFT {f:PV->PV}(h:∀ v,f v=v):∀ (l:List (PV×(Unit->Nat))),qH f l=l
 |[]=>rfl| (v,k)::r=>by simp only[qH,h v,zFT h r]
theorem zCT (o:Obj'):xD (ren id) o=o:=by cases o <;> simp only[xD,nI zJO,zFT zJO]
theorem retW {rs:List ResultVar}{r:PV}{ps ps':PS}{l:List PV}(hw:Wk ps ps')(h1:gV ps' rs=some l)(h2:les (r8 l) (ren id r))(h3:lv r=true):RetOk rs r [] [] ps :=
 ⟨ps',l,id,hw,h1,fG h2,h3,trivial,rfl,trivial⟩
theorem fO {g as_ dst ps ps' K f caps args' r}(hw:Wk ps ps')(h1:ev (zB ps'.tmps) g=.fn f caps)(h2:kP les (evs (ev (zB ps'.tmps)) as_++caps) args')(h3:zM f args' r)(h5:nmIn [] r=true)(h4:K (put ps' dst r)):CallOk g as_ dst ps K :=
 ⟨ps',hw,f,caps,h1,.inl ⟨args',r,cL h2,h3,h5,h4⟩⟩
theorem zOC {n:Nat}{els:List (List PV)}{d:Nat}{ps:PS}{K:PS->Prop}(h:K (put ps (some d) (slOf els))):BldK n els d ps K:=⟨.inl h⟩
theorem eQ {t base x d ps K n b z xs}(ht:ty t=.sli n b z){m o len els}(hb:ev (zB ps.tmps) base=.osl m n o len)(ho:z7 ps.objs m=some (.arr n els))(ho0:o ()=0)(hl:len ()=(els ()).length){m' o' len'}(hx:ev (zB ps.tmps) x=.osl m' n o' len')(hm:z7 ps.objs m'=some (.arr n xs))(h0:o' ()=0)(hl':len' ()=(xs ()).length)(hw:Wid n xs) (hr:Room (fun _=>(((els ()).length+(xs ()).length:Nat):Int)) b) (hf:yE d ⟨xY (scr m) ps.tmps,yS (scr m) (xC ps.objs m)⟩=true) (hK:K ⟨w9 (xY (scr m) ps.tmps) d (.osl d n (fun _=>0) (fun _=>(els ()).length+(xs ()).length)),yS (scr m) (xC ps.objs m)++[(d,.arr n (fun _=>els ()++xs ()))]⟩):AppK t base x (some d) ps K :=
 ⟨.inl ⟨ps,d,d,n,b,z,xs,.refl ps,rfl,ht,.inr ⟨false,m',o',len',hx,hm,h0,hl'⟩,hw,.inr ⟨false,m,o,len,els,hb,ho,ho0,hl,hr,hf,hK⟩⟩⟩
theorem wO {t base x d ps K n b z xs}(ht:ty t=.sli n b z){m o len els}(hb:ev (zB ps.tmps) base=.osl m n o len)(ho:z7 ps.objs m=some (.arr n els))(ho0:o ()=0)(hl:len ()=(els ()).length)(hx:ev (zB ps.tmps) x=.sl xs)(hw:Wid n xs) (hr:Room (fun _=>(((els ()).length+(xs ()).length:Nat):Int)) b) (hf:yE d ⟨xY (scr m) ps.tmps,yS (scr m) (xC ps.objs m)⟩=true) (hK:K ⟨w9 (xY (scr m) ps.tmps) d (.osl d n (fun _=>0) (fun _=>(els ()).length+(xs ()).length)),yS (scr m) (xC ps.objs m)++[(d,.arr n (fun _=>els ()++xs ()))]⟩):AppK t base x (some d) ps K :=
 ⟨.inl ⟨ps,d,d,n,b,z,xs,.refl ps,rfl,ht,.inl (.inl hx),hw,.inr ⟨false,m,o,len,els,hb,ho,ho0,hl,hr,hf,hK⟩⟩⟩
theorem dX {v:PV}{k i:Unit->Nat}{hs:List (PV×(Unit->Nat))}{K:PV->Prop}(h:k ()=i ())(hK:K v):HoleK ((v,k)::hs) i K:=⟨v,k,List.mem_cons_self,h,hK⟩
theorem sto0 {v v':PV}{k i:Unit->Nat}{K:List (PV×(Unit->Nat))->Prop}(h:k ()=i ())(hK:K [(v',k)]):StoH [(v,k)] i v' K:=⟨[],v,k,[],rfl,h,fun _ _ h=>(by cases h),hK⟩
theorem dF {i:Unit->Nat}{rows:Unit->List (List (List D))}(h:i ()<(rows ()).length):FocOk i rows []:=⟨h,fun _ _ h=>(by cases h)⟩
theorem zLJ {i:Unit->Nat}{rows:Unit->List (List (List D))}{v:PV}{k:Unit->Nat}(h:i ()<(rows ()).length)(hk:k ()≠i ()):FocOk i rows [(v,k)]:=⟨h,fun v' k' h'=>by
 rcases List.mem_cons.1 h' with e|e;{cases e;exact hk}
 ·cases e⟩
theorem yL {i len:Nat}{els:List (List D)}(h:i+len<=els.length):FrOk (fun _=>i) (fun _=>len) (fun _=>els):=⟨h⟩
theorem zZ {ops:List Oper}{ps:PS}{K:PS->Prop}(k:Nat)(hd:u9 ops k=true)(h:cC true ops (ops.take k) ps (fun ps''=>v8 ops (ops.drop k) ps'' K)):DrawK ops ps K:=⟨.inl ⟨k,ps,.refl ps,hd,h⟩⟩
theorem pY {ops:List Oper}{ps ps':PS}{K:PS->Prop}(k:Nat)(hw:Wk ps ps')(hd:u9 ops k=true)(h:cC true ops (ops.take k) ps' (fun ps''=>v8 ops (ops.drop k) ps'' K)):DrawK ops ps K:=⟨.inl ⟨k,ps',hw,hd,h⟩⟩
theorem zBE {ops:List Oper}{ps:PS}{K:PS->Prop}(k:Nat)(hd:u9 ops k=true)(hm:(ndO (yO (ops.take k))&&mkIn ps (yO (ops.take k)))=true) (h:j7 ops (ops.take k) ps (fun ps''=>iC ps''.tmps (yO (ops.take k))=true/\v8 ops (ops.drop k) ⟨ps''.tmps,ps''.objs++yO (ops.take k)⟩ K)):DrawK ops ps K:=⟨.inr (.inl ⟨k,ps,.refl ps,hd,hm,h⟩)⟩
theorem zGC {ops:List Oper}{ps:PS}{K:PS->Prop}(k i0:Nat)(hd:u9 ops k=true)(hm:zEM ops k i0 []=true)(h:zEL ops k i0 0 [] ps K):DrawK ops ps K:=⟨.inr (.inr (.inl ⟨k,i0,0,[],ps,.refl ps,hd,hm,h⟩))⟩
theorem zGB {ops:List Oper}{ps:PS}{K:PS->Prop}(k i0 n:Nat)(us:List Nat)(hd:u9 ops k=true)(hm:zEM ops k i0 us=true)(h:zEL ops k i0 n us ps K):DrawK ops ps K:=⟨.inr (.inr (.inl ⟨k,i0,n,us,ps,.refl ps,hd,hm,h⟩))⟩
theorem zGD {ops:List Oper}{ps:PS}{K:PS->Prop}(k:Nat)(es:List (Nat×Nat))(hd:u9 ops k=true)(he:efOk ops k es=true)(hm:(ndO (yO (ops.take k))&&mkIn ps (yO (ops.take k)))=true) (h:efWp ops es (yO (ops.take k)) (qB (vP es) ps.objs) (ops.take k) 0 ps.tmps ps.objs (fun T O=>iC T (yO (ops.take k))=true/\v8 ops (ops.drop k) ⟨T,O⟩ K)):DrawK ops ps K:=⟨.inr (.inr (.inr (.inl ⟨k,es,ps,.refl ps,hd,he,hm,h⟩)))⟩
theorem aO {ops:List Oper}{ps:PS}{K:PS->Prop}(k:Nat)(es:List (Nat×Nat))(hd:u9 ops k=true)(he:apOk k es=true) (h:apWp ops es (anc ops) (qB (vP es) ps.objs) (ops.take k) 0 ps.tmps ps.objs (fun T O=>v8 ops (ops.drop k) ⟨gD (vP es) T,yS (scC (vP es)) O⟩ K)):DrawK ops ps K:=⟨.inr (.inr (.inr (.inr (.inl ⟨k,es,ps,.refl ps,hd,he,h⟩))))⟩
theorem i9 {ops:List Oper}{ps ps':PS}{K:PS->Prop}(k:Nat)(es:List (Nat×Nat))(hw:Wk ps ps')(hd:u9 ops k=true)(he:apOk k es=true) (h:apWp ops es (anc ops) (qB (vP es) ps'.objs) (ops.take k) 0 ps'.tmps ps'.objs (fun T O=>v8 ops (ops.drop k) ⟨gD (vP es) T,yS (scC (vP es)) O⟩ K)):DrawK ops ps K:=⟨.inr (.inr (.inr (.inr (.inl ⟨k,es,ps',hw,hd,he,h⟩))))⟩
theorem pZ {ops:List Oper}{ps ps':PS}{K:PS->Prop}{σ:Type}(inv:σ->PS)(good:σ->Prop)(hw:Wk ps ps')(hsel:Region.noSelect ops.toArray=true)(h:eR ops ops.length (List.replicate ops.length false) ps' (fun q=>∃ s,good s/\Wk q (inv s)))(h2:∀ s,good s->K (inv s)):DrawK ops ps K:=⟨.inr (.inr (.inr (.inr (.inr ⟨σ,inv,good,ps',hw,hsel,h,h2⟩))))⟩
theorem pV {t:TypeId}{x:Operand}{T:List (Nat×PV)}{n s b:Nat}{z:List PV}{xs els:Unit->List (List D)}{o' len:Unit->Nat}{K:PV->Obj'->Prop}(h1:ty t=.sli s b z)(h2:ev (zB T) x=.sl xs)(h3:Wid s xs)(h4:o' ()=0)(h5:len ()=(els ()).length) (h6:Room (fun _=>(((els ()).length+(xs ()).length:Nat):Int)) b) (hK:K (.osl n s (fun _=>0) (fun _=>(els ()).length+(xs ()).length)) (.arr s (fun _=>els ()++xs ()))):EffA t x (.osl n s o' len) T (some (.arr s els)) n K :=
 ⟨s,b,z,xs,false,els,h1,.inl h2,h3,rfl,.inl ⟨o',len,rfl,h4,h5,h6,hK⟩⟩
theorem nQ {g:Operand}{as_:List Operand}{T:List (Nat×PV)}{n:Nat}{K:PV->Obj'->Prop}{f:FuncId}{caps cargs:List PV}{m k s:Nat}{els els':Unit->List (List D)}{o' l':Unit->Nat}(hn:Nat->Nat) (h1:ev (zB T) g=.fn f caps) (h0:zL8 g=true) (h2:kP les (evs (ev (zB T)) as_++caps) (m9 hn cargs)) (h3:Sound f cargs [] [(m,.arr s els)] (.osl k s o' l') [] [(k,.arr s els')]) (h4:hn m=n) (h5:hn k=n) (h6:yN lv cargs=true) (h7:yN (fixP n) (evs (ev (zB T)) as_)=true) (h8:K (.osl n s o' l') (.arr s els')):EffC g as_ T (some (.arr s els)) n K:=⟨f,caps,hn,cargs,m,k,s,els,els',o',l',h1,h0,cL h2,h3,h4,h5,rfl,h6,h7,h8⟩
theorem wN {objs:List (Nat×Obj')}{f:FuncId}{args cargs:List PV}{kept:List (Nat×Obj')}{K:PV->Prop}{r:PV}(hn:Nat->Nat)(h2:kP les args (m9 hn cargs))(h3:Sound f cargs kept [] r kept [])(h4:v5 hn objs kept)(h5:ndO (zW hn kept)=true)(h6:ndO kept=true) (h7:dB (cJ kept) kept=true) (h8:yN lv cargs=true) (h9:lv r=true) (h10:nmIn (cJ kept) r=true) (h11:K (ren hn r)):CallS true objs f args K:=⟨.inr ⟨rfl,hn,cargs,kept,r,cL h2,h3,h4,h5,h6,h7,h8,h9,h10,h11⟩⟩
theorem qY (z:Int):nx .u32 z=z%4294967296:=by unfold nx;simp[IntKind.wrap,IntKind.signed,IntKind.bits]
theorem wT (z:Int):nx .u64 z=z%18446744073709551616:=by unfold nx;simp[IntKind.wrap,IntKind.signed,IntKind.bits]
theorem zJ (n:Nat):@NatCast.natCast Int instNatCastInt n=((n:Nat):Int):=rfl
theorem yG {p:Prop}[Decidable p]{A B:Unit->Prop}(h1:p->A ())(h2:¬p->B ()):Br (fun _=>decide p) A B:=⟨fun h=>h1 (of_decide_eq_true h),fun h=>h2 (of_decide_eq_false h)⟩
theorem vA {b:Bool}{A B:Unit->Prop}(h1:b=true->A ())(h2:b=false->B ()):Br (fun _=>b) A B:=⟨h1,h2⟩
theorem zF {p:Prop}[Decidable p]{A B:(Exit->PS->Prop)->Prop}{Q:Exit->PS->Prop}(h1:p->A Q)(h2:¬p->B Q):Cut (fun _=>decide p) A B Q:=⟨.inl ⟨fun h=>h1 (of_decide_eq_true h),fun h=>h2 (of_decide_eq_false h)⟩⟩
theorem z9 {b:Bool}{A B:(Exit->PS->Prop)->Prop}{Q:Exit->PS->Prop}(h1:b=true->A Q)(h2:b=false->B Q):Cut (fun _=>b) A B Q:=⟨.inl ⟨h1,h2⟩⟩
theorem fN {p:Prop}[Decidable p]{A B:(Exit->PS->Prop)->Prop}{Q:Exit->PS->Prop}{σ:Type}(inv:σ->PS)(good:σ->Prop) (h1:p->A (zEP inv good Q)) (h2:¬p->B (zEP inv good Q)) (h3:∀ s,good s->Q .normal (inv s)):Cut (fun _=>decide p) A B Q :=
 ⟨.inr ⟨σ,inv,good,fun h=>h1 (of_decide_eq_true h),fun h=>h2 (of_decide_eq_false h),h3⟩⟩
theorem zE {z:Int}(h1:-9223372036854775808<=z)(h2:z<=9223372036854775807):InI64 (fun _=>z):=⟨h1,h2⟩
theorem wP {z:Int}(h:0<=z):Nn (fun _=>z):=⟨h⟩
theorem v9 {z:Int}(h:z≠0):Nz (fun _=>z):=⟨h⟩
theorem zQ {k:Int}{n:Nat}(h1:0<=k)(h2:k<(n:Int)):Rng (fun _=>k) (fun _=>n):=⟨h1,h2⟩
theorem aD {l h:Int}{n:Nat}(h1:0<=l)(h2:l<=h)(h3:h<=(n:Int)):SlOk (fun _=>l) (fun _=>h) (fun _=>n):=⟨h1,h2,h3⟩
theorem zFD {l h:Int}(h1:l<h):SlNe (fun _=>l) (fun _=>h):=⟨h1⟩
theorem yJ {n:Int}{b:Nat}(h1:0<=n)(h2:n*(b:Int)<=70368744177664):Room (fun _=>n) b:=⟨h1,h2⟩
theorem wM {x y:Int}(h1:0<=x)(h2:x<=y):MkOk (fun _=>x) (fun _=>y):=⟨h1,h2⟩
theorem zJX {n:Nat}{els:List (List D)}{k:Int}{K:List PV->Prop}(j:Nat)(hk:k=(j:Int))(c:List PV)(hf:yN kQ c=true)(hn:c.length=n)(he:els[j]?=some (xM c))(hK:K c):IdxOk n (fun _=>els) (fun _=>k) K :=
 ⟨⟨by simp only[hk];omega,c,hf,hn,by simp only[hk,Int.toNat_natCast];exact he,hK⟩⟩
theorem zMD {n:Nat}{els:List (List D)}{i:Nat}{K:List PV->Prop}(j:Nat)(hk:i=j)(c:List PV)(hf:yN kQ c=true)(hn:c.length=n)(he:els[j]?=some (xM c))(hK:K c):ElOk n (fun _=>els) (fun _=>i) K :=
 ⟨⟨c,hf,hn,by simp only[hk];exact he,hK⟩⟩
theorem bU (a:PV):LeS a a:=⟨Le.refl a⟩
theorem zC {k:IntKind}{a b:Int}(h:a=b):LeS (.int k (fun _=>a)) (.int k (fun _=>b)):=⟨by simp[Le,h]⟩
theorem zX {a b:List (List D)}(h:a=b):LeS (.sl (fun _=>a)) (.sl (fun _=>b)):=⟨by simp[Le,h]⟩
theorem zN {b:List (List D)}(h:b=[]):LeS .nil (.sl (fun _=>b)):=⟨by simp[Le,h]⟩
theorem z5 {n m o o' l l':Nat}(h:o=o')(h2:l=l'):LeS (.osl n m (fun _=>o) (fun _=>l)) (.osl n m (fun _=>o') (fun _=>l')):=⟨by simp[Le,h,h2]⟩
theorem zA {a b:List (List D)}(h:a=b):ElsEq (fun _=>a) (fun _=>b):=⟨h⟩
theorem zI {a b:Bool}(h:a=b):LeS (.bool (fun _=>a)) (.bool (fun _=>b)):=⟨by simp[Le,h]⟩
theorem kM {a b:Bool}(h:b=!a):LeS (.nbool (fun _=>a)) (.bool (fun _=>b)):=⟨by simp[Le,h]⟩
theorem zU {b:Bool}(h:b=true):LeS .tt (.bool (fun _=>b)):=⟨by simp[Le,h]⟩
theorem zL {b:Bool}(h:b=false):LeS .ff (.bool (fun _=>b)):=⟨by simp[Le,h]⟩
def lm (l:List UInt32):List (List D):=l.map fun x=>[.int .u32 x.toNat]
abbrev nat (l:List UInt32):PV:=.sl (fun _=>lm l)
theorem zG (l:List UInt32):(lm l).length=l.length:=by simp[lm]
theorem sY (l:List UInt32):Wid 1 (fun _=>lm l):=⟨fun e he=>by simp only[lm,List.mem_map] at he;obtain⟨x,_,rfl⟩:=he;rfl⟩
theorem zJV {l:List UInt32}{j:Nat}(hj:j<l.length):(lm l)[j]?=some [.int .u32 ((l.getD j 0).toNat:Int)]:=by simp[lm,hj]
theorem y5 {l:List UInt32}{k:Int}{K:List PV->Prop}(j:Nat)(hk:k=(j:Int))(hj:j<l.length)(hK:K [.int .u32 (fun _=>((l.getD j 0).toNat:Int))]):IdxOk 1 (fun _=>lm l) (fun _=>k) K :=
 zJX j hk [.int .u32 (fun _=>((l.getD j 0).toNat:Int))] rfl rfl (zJV hj) hK
theorem qI {l:List UInt32}{i:Nat}{K:List PV->Prop}(j:Nat)(hk:i=j)(hj:j<l.length)(hK:K [.int .u32 (fun _=>((l.getD j 0).toNat:Int))]):ElOk 1 (fun _=>lm l) (fun _=>i) K :=
 zMD j hk [.int .u32 (fun _=>((l.getD j 0).toNat:Int))] rfl rfl (zJV hj) hK
theorem zFX (l:List UInt32)(n:Nat):(lm l).take n=lm (l.take n):=by simp[lm,List.map_take]
theorem zFY (l:List UInt32)(n:Nat):(lm l).drop n=lm (l.drop n):=by simp[lm,List.map_drop]
theorem zG9 (l m:List UInt32):lm l++lm m=lm (l++m):=by simp[lm]
theorem om {p:Prop}(h:p:=by (try dsimp only [zJ] at *) <;> (try simp only[zG] at *) <;> omega):p:=h
theorem okA {p:Prop}(h:p:=by repeat' first|exact trivial|exact bU _|exact zU rfl|exact zL rfl|exact zN rfl|apply And.intro):p:=h
theorem okZ {p:Prop}(h:p:=by cbv;repeat' first|exact trivial|exact bU _|exact zA rfl|exact zC om|exact zN rfl|exact zL (by assumption)|exact zU (by assumption)|exact zI (by assumption)|apply And.intro):p:=h
theorem lR {a:PV}:LeS a a:=bU a
theorem wkY {ps ps':PS}(h:leT ps.tmps ps'.tmps/\leO ps.objs ps'.objs)(hn:ndO ps'.objs=true:=by rfl):Wk ps ps':=.le h.1 h.2 hn
theorem wkZ {ps ps':PS}(h:leT ps.tmps ps'.tmps/\leO ps.objs ps'.objs:=by cbv;repeat' first|exact trivial|exact bU _|exact zA rfl|exact zC om|exact zN rfl|exact zL (by assumption)|exact zU (by assumption)|exact zI (by assumption)|apply And.intro)(hn:ndO ps'.objs=true:=by rfl):Wk ps ps':=.le h.1 h.2 hn
theorem cA {g as_ dst ps K f caps args' r}(h3:zM f args' r)(h4:K (put ps dst r))(h1:ev (zB ps.tmps) g=.fn f caps:=by exact rfl)(h2:kP les (evs (ev (zB ps.tmps)) as_++caps) args':=by exact okA)(h5:nmIn [] r=true:=by exact rfl):CallOk g as_ dst ps K:=wA h1 h2 h3 h5 h4
theorem sF {f : FuncId} (fn : Func) {args : List PV} {kept eaten : List (Nat × Obj')} {r : PV} {kept' made : List (Nat × Obj')} (hwp : wp (mI fn) ⟨eP 0 args, kept ++ eaten⟩ (bK fn.results.toList r kept' made)) (hf : Pg.funcs[f]? = some fn := by rw [xX]; rfl) (hb : fn.body.isSome = true := by exact rfl) (hname : (fn.name == "runtime.NumGoroutine") = false := by exact rfl) (hN : uQ fn.ntmps (mI fn) = true := by exact rfl) (hargs : nle args.length fn.ntmps = true := by exact rfl) (hnk : kept'.map Prod.fst = kept.map Prod.fst := by exact rfl) : Sound f args kept eaten r kept' made := yH hf hb hname hN hargs hnk hwp
theorem rC {rs:List ResultVar}{r:PV}{ps:PS}(h:match gV ps rs with
 |some l=>les (r8 l) (ren id r)| none=>False) (h3:lv r=true:=by exact rfl):RetOk rs r [] [] ps:=retC h3 h
end Go.Proofs.YtfainocfaddbdaaGreat
