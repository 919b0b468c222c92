/- A part of the proof: PmQ, PmR, PnA. -/
import Derived.Test.YtfainocfaddbdaaGreatY13
import Derived.Deep.LoopGhost
import Derived.Scope
set_option linter.all false
namespace Go.Proofs.YtfainocfaddbdaaGreat
open Go
def uZ (N:Nat):Code->Bool
 |.region _ ops _=>ops.toList.all (cY N)| .seq a b=>uZ N a&&uZ N b| .cond _ a b=>uZ N a&&uZ N b| .block _ b=>uZ N b| .loop b=>uZ N b| .scope b=>uZ N b| _=>true
theorem zAO:Pg.follows .mixedOrders=true:=by rw[w5];rfl
section
variable {w0:World} {S0:Nat->Nat->Prop} {K0:Nat->Prop} {N:Cx}
def Meet (w0:World) (S0:Nat->Nat->Prop) (K0:Nat->Prop) (N:Cx) {σ:Type} (inv:σ->PS) (good:σ->Prop) (Q:Exit->PS->Prop):Exit->Act->World->Prop:=fun e a w=>match e with
 |.normal=>∃ s S β,good s/\Sim w0 S0 K0 N (zB (inv s).tmps) (inv s).objs a w S β| e=>∃ ps S β,Q e ps/\Sim w0 S0 K0 N (zB ps.tmps) ps.objs a w S β
theorem zKG {σ:Type}{inv:σ->PS}{good:σ->Prop}{Q:Exit->PS->Prop}:∀ e ps' a' w' S' β',eX inv good Q e ps'->Sim w0 S0 K0 N (zB ps'.tmps) ps'.objs a' w' S' β'->Meet w0 S0 K0 N inv good Q e a' w':=by
 intro e ps' a' w' S' β' hq hs;cases e with
 |normal =>
  obtain⟨s,hg,hw⟩:=hq;obtain⟨S2,β2,h2⟩:=hw.sound hs;exact⟨s,S2,β2,hg,h2⟩
 |exit i=>exact⟨ps',S',β',hq,hs⟩| goto l=>exact⟨ps',S',β',hq,hs⟩| ret=>exact⟨ps',S',β',hq,hs⟩| panic ch=>exact⟨ps',S',β',hq,hs⟩| outgrown=>exact⟨ps',S',β',hq,hs⟩
theorem meet {σ:Type}{inv:σ->PS}{good:σ->Prop}{Q:Exit->PS->Prop}{QM:Exit->Act->World->Prop}(hk:∀ e ps' a' w' S' β',Q e ps'->Sim w0 S0 K0 N (zB ps'.tmps) ps'.objs a' w' S' β'->QM e a' w') (hJ:∀ s,good s->Q .normal (inv s)):∀ e a w,Meet w0 S0 K0 N inv good Q e a w->QM e a w:=by
 intro e a w h;cases e with
 |normal=>obtain⟨s,S,β,hg,hs⟩:=h;exact hk _ _ _ _ _ _ (hJ s hg) hs
 |exit i=>obtain⟨ps,S,β,hq,hs⟩:=h;exact hk _ _ _ _ _ _ hq hs
 |goto l=>obtain⟨ps,S,β,hq,hs⟩:=h;exact hk _ _ _ _ _ _ hq hs
 |ret=>obtain⟨ps,S,β,hq,hs⟩:=h;exact hk _ _ _ _ _ _ hq hs
 |panic ch=>obtain⟨ps,S,β,hq,hs⟩:=h;exact hk _ _ _ _ _ _ hq hs
 |outgrown=>obtain⟨ps,S,β,hq,hs⟩:=h;exact hk _ _ _ _ _ _ hq hs
theorem zKK:∀ (c:Code),uZ N c=true->∀ {ps:PS} {Q:Exit->PS->Prop} {a:Act} {w:World} {S:Nat->Nat->Prop} {β:Bm} {QM:Exit->Act->World->Prop},Sim w0 S0 K0 N (zB ps.tmps) ps.objs a w S β->wp c ps Q->(∀ e ps' a' w' S' β',Q e ps'->Sim w0 S0 K0 N (zB ps'.tmps) ps'.objs a' w' S' β'->QM e a' w')->c.wp Pg QM a w:=by
 intro c;induction c with
 |skip=>intro _ ps Q a w S β QM h hs hk;exact wp_skip (hk _ _ _ _ _ _ hs h)| region id ops draw =>
  intro hc ps Q a w S β QM h hs hk;simp only[uZ,List.all_eq_true] at hc;cases draw with
  |false =>
   simp only[wp] at hs;refine wp_region_list ?_;have hgo:vW ops.toList ops.toList ps (Q .normal)->_:=fun hs=>dW (Q:=QM) (K:=Q .normal) (fun ps' a' w' S' β' hq hsim=>hk _ _ _ _ _ _ hq hsim) ops.toList hc h hs;split at hs;{rcases hs.h with hs|⟨σ,inv,good,h1,h2⟩;{simpa using hgo hs};{have:=dW (Q:=QM) (K:=fun ps'=>∃ s,good s/\Wk ps' (inv s)) (fun ps' a' w' S' β' hq hsim=>by obtain⟨s,g,k⟩:=hq;obtain⟨S2,β2,h3⟩:=k.sound hsim;exact hk _ _ _ _ _ _ (h2 s g) h3) ops.toList hc h h1;simpa using this}};{simpa using hgo hs}
  |true =>
   simp only[wp] at hs;refine wp_region_any zAO ?_;have:=zGC hs (Q:=QM) hc (fun ps' a' w' S' β' hq hsim=>hk _ _ _ _ _ _ hq hsim) h;simpa using this
 |seq x y ihx ihy =>
  intro hc ps Q a w S β QM h hs hk;simp only[uZ,Bool.and_eq_true] at hc;simp only[wp] at hs;refine Go.wp_seq (ihx hc.1 h hs ?_);intro e ps' a' w' S' β' hq hsim;cases e with
  |normal=>exact ihy hc.2 hsim hq hk| exit i=>exact hk _ _ _ _ _ _ hq hsim| goto l=>exact hk _ _ _ _ _ _ hq hsim| ret=>exact hk _ _ _ _ _ _ hq hsim| panic ch=>exact hk _ _ _ _ _ _ hq hsim| outgrown=>exact hk _ _ _ _ _ _ hq hsim
 |cond x y z ihy ihz =>
  intro hc ps Q a w S β QM h hs hk;simp only[uZ,Bool.and_eq_true] at hc;have hr:=h.eval x;simp only[wp] at hs;split at hs;{rename_i hx;rw[hx] at hr;exact wp_cond_true (m5 hr) (ihy hc.1 h hs hk)};{rename_i hx;rw[hx] at hr;exact wp_cond_false (m6 hr) (ihz hc.2 h hs hk)};{rename_i b hx;rw[hx] at hr;rcases hs.h with hs|⟨σ,inv,good,hA,hB,hJ⟩;{exact wp_cond_split (fW hr) (fun e=>ihy hc.1 h (hs.1 e) hk) (fun e=>ihz hc.2 h (hs.2 e) hk)};{exact wp_cond_split (fW hr) (fun e=>Code.wp_mono (meet hk hJ) (ihy hc.1 h (hA e) zKG)) (fun e=>Code.wp_mono (meet hk hJ) (ihz hc.2 h (hB e) zKG))}};{rename_i b hx;rw[hx] at hr;rcases hs.h with hs|⟨σ,inv,good,hA,hB,hJ⟩;{exact wp_cond_split (fD hr) (fun e=>ihy hc.1 h (hs.2 (by simpa using e)) hk) (fun e=>ihz hc.2 h (hs.1 (by simpa using e)) hk)};{exact wp_cond_split (fD hr) (fun e=>Code.wp_mono (meet hk hJ) (ihy hc.1 h (hB (by simpa using e)) zKG)) (fun e=>Code.wp_mono (meet hk hJ) (ihz hc.2 h (hA (by simpa using e)) zKG))}};{exact hs.elim}
 |block id b ih =>
  intro hc ps Q a w S β QM h hs hk;simp only[uZ] at hc;simp only[wp] at hs;refine Go.wp_block (ih hc h hs ?_);intro e ps' a' w' S' β' hq hsim;cases e with
  |exit i =>
   simp only[Exit.inBlock];cases hb:nqb i id with
   |true =>
    have:=yC hb;subst this;simp only[hb,cond_true] at hq;rw[if_pos rfl];exact hk _ _ _ _ _ _ hq hsim
   |false =>
    (have hne:i≠id:=fun e=>by subst e;simp at hb);simp only[hb,cond_false] at hq
    rw[if_neg hne];exact hk _ _ _ _ _ _ hq hsim
  |normal=>exact hk _ _ _ _ _ _ hq hsim| goto l=>exact hk _ _ _ _ _ _ hq hsim| ret=>exact hk _ _ _ _ _ _ hq hsim| panic ch=>exact hk _ _ _ _ _ _ hq hsim| outgrown=>exact hk _ _ _ _ _ _ hq hsim
 |exit id=>intro _ ps Q a w S β QM h hs hk;exact wp_exit (hk _ _ _ _ _ _ hs h)| label l=>intro _ ps Q a w S β QM h hs hk;exact wp_label (hk _ _ _ _ _ _ hs h)| scope b ih =>
  intro hc ps Q a w S β QM h hs hk;simp only[uZ] at hc;simp only[wp] at hs;refine Go.wp_scope_straight (ih hc h hs ?_);intro e ps' a' w' S' β' hq hsim;cases e with
  |goto l=>exact hq.elim| normal=>exact hk _ _ _ _ _ _ hq hsim| exit i=>exact hk _ _ _ _ _ _ hq hsim| ret=>exact hk _ _ _ _ _ _ hq hsim| panic ch=>exact hk _ _ _ _ _ _ hq hsim| outgrown=>exact hk _ _ _ _ _ _ hq hsim
 |ret=>intro _ ps Q a w S β QM h hs hk;exact wp_ret (hk _ _ _ _ _ _ hs h)| loop b ih =>
  intro hc ps Q a w S β QM h hs hk;simp only[uZ] at hc;simp only[wp] at hs;obtain⟨σ,inv,good,mu,s0,hg,hw,hround⟩:=hs.h;obtain⟨S1,β1,h1⟩:=hw.sound h;refine wp_loop_ghost (fun n a w=>∃ s S β,good s/\mu s=n/\Sim w0 S0 K0 N (zB (inv s).tmps) (inv s).objs a w S β) (mu s0) ⟨s0,S1,β1,hg,rfl,h1⟩ ?_;rintro n a' w' ⟨s,S2,β2,hgs,rfl,hsim⟩;refine ih hc hsim (hround s hgs) ?_;intro e ps' a2 w2 S3 β3 hq hsim2;cases e with
  |normal =>
   obtain⟨s',hg',hmu,hwk⟩:=hq;obtain⟨S4,β4,h4⟩:=hwk.sound hsim2;exact⟨mu s',hmu,s',S4,β4,hg',rfl,h4⟩
  |exit i=>exact hk _ _ _ _ _ _ hq hsim2| goto l=>exact hk _ _ _ _ _ _ hq hsim2| ret=>exact hk _ _ _ _ _ _ hq hsim2| panic ch=>exact hk _ _ _ _ _ _ hq hsim2| outgrown=>exact hk _ _ _ _ _ _ hq hsim2
 |_=>intro _ ps Q a w S β QM h hs hk;simp only[wp] at hs
theorem zJI {w:World}{S:Nat->Nat->Prop}{β:Bm}{t:Nat}{cs:List PV}{off:Nat}{pv:PV}(h:rdV (ty t) cs off=some pv){b o:Nat}(vals:Nat->Value) (hc:∀ j,j<cs.length->w.cell? ⟨b,o+j,none⟩=some (vals j)) (hr:∀ j,j<cs.length->Rep w S β (vals j) (cs.getD j .any)):∃ val,(loadVar t ⟨b,o+off,none⟩).run Pg w=.ok val w/\Rep w S β val pv:=by
 have hk:rdK (ty t) cs off (fun v=>v=pv):=by
  unfold rdV at h;unfold rdK;cases hno:(ty t).isNo with
  |true=>simp[hno] at h| false =>
   simp only[hno,cond_false] at h ⊢;cases hle:nle (off+(ty t).cells) cs.length with
   |false=>simp[hle] at h| true=>simp only[hle,cond_true,Option.some.injEq] at h ⊢;exact h
 obtain⟨pv',val,h1,h2,h3⟩:=cL hk vals hc hr;subst h1;exact⟨val,by simpa[Instr.loadAt,Instr.sureAddr] using h2,h3⟩
def i9 (tmps:Array Value):ResultVar->Sem Value
 |.tmp t=>pure (tmps.getD t undef)| .cell a t=>do loadVar t (<-asAddr (tmps.getD a undef))
theorem zF1 (fn:Func)(tmps:Array Value):results fn tmps=(do let vs <-fn.results.mapM (i9 tmps);pure (if h:vs.size=1 then vs[0] else .tuple vs)):=by unfold results;congr 2
theorem r9 {ps:PS}{a:Act}{w:World}{S:Nat->Nat->Prop}{β:Bm}(h:Sim w0 S0 K0 N (zB ps.tmps) ps.objs a w S β):∀ (rs:List ResultVar) {l:List PV},fR ps rs=some l ->∃ vs:List Value,(rs.mapM (i9 a.tmps):Sem (List Value)).run Pg w=.ok vs w/\RepL w S β vs.toArray l
 |[],l,he=>by simp only[fR,Option.some.injEq] at he;subst he;exact⟨[],rfl,rfl,fun j hj=>by simp at hj⟩| .tmp t::r,l,he=>by
  simp only[fR] at he;split at he
  ·rename_i l' hl';simp only[Option.some.injEq] at he;subst he;obtain⟨vs,h1,h2⟩:=r9 h r hl';refine⟨a.tmps.getD t undef::vs,by rw[List.mapM_cons,Sem.run_bind];simp only[i9,Sem.run_pure,Result.andThen_ok,Sem.run_bind,h1],by simpa using h2.1,fun j hj=>?_⟩;cases j with
   |zero=>simpa using h.tmp t| succ j=>simpa using h2.2 j (by simpa using hj)
  {cases he}
 |.cell x t::r,l,he=>by
  simp only[fR] at he;split at he
  ·rename_i n off hx;split at he
   ·rename_i cs ho;split at he
    ·rename_i v l' hv hl';simp only[Option.some.injEq] at he;subst he;obtain⟨vs,h1,h2⟩:=r9 h r hl';have hr:=h.tmp x;rw[hx] at hr;obtain⟨b,hβ,hv'⟩:=uM hr;obtain⟨b',us,T,hβ',hb,hsz,hrr⟩:=zCD h ho;rw[hβ] at hβ';cases hβ';obtain⟨val,h3,h4⟩:=zJI (w:=w) (S:=S) (β:=β) (b:=b) (o:=0) hv (fun j=>us.getD j undef) (fun j hj=>by rw[Nat.zero_add];exact vL hb j (by omega)) hrr;rw[Nat.zero_add] at h3;refine⟨val::vs,?_,by simpa using h2.1,fun j hj=>?_⟩
     ·(rw[List.mapM_cons];have e:(i9 a.tmps (.cell x t)).run Pg w=.ok val w:=by simp only[i9,Sem.run_bind,hv',asAddr,Sem.run_pure,Result.andThen_ok,h3]);simp only[Sem.run_bind,e,Sem.run_pure,Result.andThen_ok,h1]
     ·cases j with
      |zero=>simpa using h4| succ j=>simpa using h2.2 j (by simpa using hj)
    {cases he}
   {cases he}
  {cases he}
theorem zAL {fn:Func}{ps:PS}{a:Act}{w:World}{S:Nat->Nat->Prop}{β:Bm}(h:Sim w0 S0 K0 N (zB ps.tmps) ps.objs a w S β){l:List PV}(hl:fR ps fn.results.toList=some l):∃ v,(results fn a.tmps).run Pg w=.ok v w/\Rep w S β v (tT l):=by
 obtain⟨vs,h1,h2⟩:=r9 h _ hl;refine⟨if h:vs.toArray.size=1 then vs.toArray[0] else .tuple vs.toArray,?_,?_⟩;{rw[zF1,Array.mapM_eq_mapM_toList,Sem.run_bind,Sem.run_map,h1];rfl}
 ·by_cases h3:vs.toArray.size=1
  ·rw[dif_pos h3];have h4:l.length=1:=by rw[<-h2.1];exact h3
   match l,h4 with
   |[x],_ =>
    have:=h2.2 0 (by simp);simp only[tT];simpa[h3] using this
  ·(rw[dif_neg h3];have h4:l.length≠1:=by rw[<-h2.1];exact h3);have:tT l=.tup l:=by
    match l with
    |[]=>rfl| [x]=>simp at h4| x::y::r=>rfl
   rw[this];exact .tup h2.1 h2.2
theorem oD {h:Nat->Nat}:∀ {l:List (Nat×Obj')},oE h l->∀ {n o},(n,o)∈l->h n=n/\1000000<=n
 |(m,x)::r,H,n,o,hm=>by simp only[List.mem_cons] at hm;rcases hm with hm|hm;{cases hm;exact H.1};{exact oD H.2 hm}
theorem tU {h:Nat->Nat}:∀ {l:List Nat},(l.map h).Nodup->l.Nodup
 |[],_=>List.nodup_nil| x::r,hnd=>by simp only[List.map_cons,List.nodup_cons] at hnd ⊢;exact⟨fun hx=>hnd.1 (List.mem_map.2 ⟨x,hx,rfl⟩),tU hnd.2⟩
def lS:Nat->List PV->List (Nat×PV)
 |_,[]=>[]| k,v::r=>(k,v)::lS (k+1) r
theorem zBB:∀ (l:List PV) (k t:Nat),zB (lS k l) t=if k<=t/\t<k+l.length then l.getD (t-k) .any else .any
 |[],k,t=>by simp[lS,zB]| v::r,k,t=>by
  simp only[lS,zB];by_cases h:k=t;{subst h;simp}
  ·rw[nbeq h];simp only[];rw[zBB r (k+1) t];by_cases h2:k+1<=t/\t<k+1+r.length
   ·(rw[if_pos h2,if_pos (by simp only[List.length_cons];omega)];have:t-k=(t-(k+1))+1:=by omega);rw[this,List.getD_cons_succ]
   {rw[if_neg h2,if_neg (by simp only[List.length_cons];omega)]}
theorem zKR {f : FuncId} {fn : Func} {c : Code} (hf : Pg.funcs[f]? = some fn) (hb : fn.body = some c) (hname : (fn.name == "runtime.NumGoroutine") = false) (hN : uZ fn.ntmps c = true) {args : List PV} (hargs : nle args.length fn.ntmps = true) {kept eaten:List (Nat × Obj')} {r:PV} {kept' made:List (Nat × Obj')} (hnk:kept'.map Prod.fst=kept.map Prod.fst) (hwp:wp c ⟨lS 0 args,kept++eaten⟩ (pA fn.results.toList r kept' made)):Sound f args kept eaten r kept' made where
 isf vals w:=by
  (have hn : ¬ fn.name = "runtime.NumGoroutine" := by simpa using hname);simp[callFunc,hf,hn,hb]
 go w S β vals hbnd hobj hsz hrep:=by
  have hal:=aP hargs;refine calls_of_wp hf hb ?_;have hsim:Sim w S (Blk β (kept++eaten)) ⟨fn.ntmps,β⟩ (zB (lS 0 args)) (kept++eaten) { tmps:=vals++Array.replicate (fn.ntmps-vals.size) undef,defers:=[] } w S β:=by
   refine⟨rfl,by simp[hsz];omega,⟨Nat.le_refl _,rfl,rfl,rfl,fun _ _ _=>rfl,fun b vs T h=>⟨vs,h,rfl⟩,hbnd,fun _ _ _ h=>h,fun _ _ _ _ h=>h⟩,fun t=>?_,hobj,fun n o b hm hβ=>.inr ⟨n,o,hm,hβ⟩,fun _ _ _ _=>rfl⟩;rw[zBB];by_cases h:t<args.length
   ·(rw[if_pos (by omega)];have h1:=hrep t h;have hlt:t<vals.size:=by omega);simpa[Array.getElem?_append_left hlt] using h1
   {rw[if_neg (by omega)];exact xN _}
  refine zKK c hN hsim hwp ?_;have fin:∀ ps' a' w' S' β',RetOk fn.results.toList r kept' made ps'->Sim w S (Blk β (kept++eaten)) ⟨fn.ntmps,β⟩ (zB ps'.tmps) ps'.objs a' w' S' β' ->
    a'.defers=[]/\∃ v,(results fn a'.tmps).run Pg w'=.ok v w'/\(∃ v' S' β',Ending.returned v=.returned v'/\Leads w S (Blk β (kept++eaten)) w' S'/\Rep w' S' β' v' r/\ObjsAt w' S' β' (kept'++made) /\
   (kept'.map Prod.fst=kept.map Prod.fst)/\(∀ n o,(n,o)∈kept->β' n=β n) /\
   (∀ n o b,(n,o)∈kept'++made->Own β' n o b->w.heap.size<=b\/Blk β (kept++eaten) b)):=by
   intro ps1 a' w' S1 β1 hr h1;obtain⟨ps',l,hn,hw,hl,hle,hlv,hobjs,hnd,hkid⟩:=hr.h;obtain⟨S2,β2,h2⟩:=hw.sound h1;obtain⟨v,h3,h4⟩:=zAL h2 hl;have hmem:∀ {n o},(n,o)∈kept'++made->(hn n,xH (ren hn) o)∈ps'.objs/\gP o=true:=fun hm=>aX hobjs hm;have hndn:=qE hnd;have fstH:∀ {n o},(n,o)∈kept'++made->∀ {m o'},(m,o')∈kept'++made->hn n=hn m->n=m:=fun hm _ _ hm' he=>sR hndn hm hm' he;refine⟨h2.dfr,v,h3,v,S2,β2.ren hn,rfl,h2.ld,zDH (h4.le _ hle) hlv,⟨?_,fun n o hm=>zHW (hmem hm).2 (h2.obj.at_ _ _ (hmem hm).1),fun n o b hm hβ=>?_,
    fun n o m o' b hm hm' hβ hβ'=>fstH hm hm' (h2.obj.inj _ _ _ _ b (hmem hm).1 (hmem hm').1 (dV.1 hβ) (dV.1 hβ'))⟩,hnk,fun n o hm=>?_,fun n o b hm hβ=>h2.own _ _ b (hmem hm).1 (dV.1 hβ)⟩
   {rw[kQ] at hndn;exact tU hndn};{obtain⟨h5,h6⟩:=h2.obj.un _ _ b (hmem hm).1 (dV.1 hβ);exact⟨fun i hS=>absurd (h5 i hS) (zA0 (hmem hm).2),h6⟩};{obtain⟨o',hm'⟩:=l6 hnk.symm hm;obtain⟨e1,e2⟩:=oD hkid hm';have:=h2.keep n _ (by have:=(hmem (List.mem_append_left made hm')).1;rwa [e1] at this) e2;show β2 (hn n)=β n;rw[e1];exact this}
  intro e ps' a' w' S' β' hq hs';cases e with
  |normal=>exact fin _ _ _ _ _ hq hs'| ret=>exact fin _ _ _ _ _ hq hs'| exit i=>exact hq.elim| goto l=>exact hq.elim| panic ch=>exact hq.elim| outgrown=>exact hq.elim
end
def nW (f:Func):Code:=f.body.getD .skip
theorem xP {f : FuncId} {fn : Func} (hf : Pg.funcs[f]? = some fn) (hb : fn.body.isSome = true) (hname : (fn.name == "runtime.NumGoroutine") = false) (hN : uZ fn.ntmps (nW fn) = true) {args : List PV} (hargs : nle args.length fn.ntmps = true) {kept eaten:List (Nat × Obj')} {r:PV} {kept' made:List (Nat × Obj')} (hnk:kept'.map Prod.fst=kept.map Prod.fst) (hwp:wp (nW fn) ⟨lS 0 args,kept++eaten⟩ (pA fn.results.toList r kept' made)):Sound f args kept eaten r kept' made:=by
 obtain⟨c,hc⟩:=Option.isSome_iff_exists.1 hb;have:nW fn=c:=by simp[nW,hc]
 rw[this] at hN hwp;exact zKR hf hc hname hN hargs hnk hwp
theorem xO {g as_ dst ps K f caps args' r}(h1:ev (zB ps.tmps) g=.fn f caps)(h2:jA les (evs (ev (zB ps.tmps)) as_++caps) args')(h3:zJ f args' r)(h5:nmIn [] r=true)(h4:K (put ps dst r)):CallOk g as_ dst ps K :=
 ⟨ps,.refl ps,f,caps,h1,.inl ⟨args',r,bJ h2,h3,h5,h4⟩⟩
theorem qP {rs:List ResultVar}{r:PV}{ps:PS}{l:List PV}(h1:fR ps rs=some l)(h2:les (tT l) (ren id r))(h3:lv r=true):RetOk rs r [] [] ps :=
 ⟨ps,l,id,.refl ps,h1,f6 h2,h3,trivial,rfl,trivial⟩
theorem retC {rs:List ResultVar}{r:PV}{ps:PS}(h3:lv r=true)(h:match fR ps rs with
  |some l=>les (tT l) (ren id r)| none=>False):RetOk rs r [] [] ps:=by
 cases h1:fR ps rs with
 |none=>rw[h1] at h;exact h.elim| some l=>rw[h1] at h;exact qP h1 h h3
theorem zZ {B:PS->(Exit->PS->Prop)->Prop}{ps:PS}{Q:Exit->PS->Prop}{σ:Type}(inv:σ->PS)(good:σ->Prop)(mu:σ->Nat)(s0:σ)(h0:good s0)(hw:Wk ps (inv s0)) (hr:∀ s,good s->B (inv s) (fun e ps'=>match e with
   |.normal=>∃ s',good s'/\mu s'<mu s/\Wk ps' (inv s')| e=>Q e ps')):LoopOk B ps Q:=⟨⟨σ,inv,good,mu,s0,h0,hw,hr⟩⟩
theorem zRA (v:PV):rn0 id v=v:=by cases v <;> rfl
theorem lZ {f:PV->PV}(h:∀ v,f v=v):∀ (l:List PV),wA f l=l
 |[]=>rfl| v::r=>by simp only[wA,h v,lZ h r]
theorem zQ9 (v:PV):rn1 id v=v:=by cases v <;> simp only[rn1,rn0,lZ zRA,id]
theorem zMO (v:PV):ren id v=v:=by cases v <;> simp only[ren,rn0,lZ zQ9,id]
theorem zHZ {f:PV->PV}(h:∀ v,f v=v):∀ (l:List (PV×(Unit->Nat))),kB f l=l
 |[]=>rfl| (v,k)::r=>by simp only[kB,h v,zHZ h r]
theorem zEE (o:Obj'):xH (ren id) o=o:=by cases o <;> simp only[xH,lZ zMO,zHZ zMO]
theorem retW {rs:List ResultVar}{r:PV}{ps ps':PS}{l:List PV}(hw:Wk ps ps')(h1:fR ps' rs=some l)(h2:les (tT l) (ren id r))(h3:lv r=true):RetOk rs r [] [] ps :=
 ⟨ps',l,id,hw,h1,f6 h2,h3,trivial,rfl,trivial⟩
theorem gI {g as_ dst ps ps' K f caps args' r}(hw:Wk ps ps')(h1:ev (zB ps'.tmps) g=.fn f caps)(h2:jA les (evs (ev (zB ps'.tmps)) as_++caps) args')(h3:zJ f args' r)(h5:nmIn [] r=true)(h4:K (put ps' dst r)):CallOk g as_ dst ps K :=
 ⟨ps',hw,f,caps,h1,.inl ⟨args',r,bJ h2,h3,h5,h4⟩⟩
theorem zR6 {n:Nat}{els:List (List PV)}{d:Nat}{ps:PS}{K:PS->Prop}(h:K (put ps (some d) (slOf els))):BldK n els d ps K:=⟨.inl h⟩
theorem zIU {n:Nat}{els:List (List PV)}{d:Nat}{ps:PS}{K:PS->Prop}(hf:z8 d ps=true)(h:K ⟨wR ps.tmps d (.osl d n (fun _=>0) (fun _=>(yS els).length)),ps.objs++[(d,.arr n (fun _=>yS els))]⟩):BldK n els d ps K:=⟨.inr ⟨hf,h⟩⟩
theorem zAI {t base x d ps K n b z xs}(ht:ty t=.sli n b z){m o len els}(hb:ev (zB ps.tmps) base=.osl m n o len)(ho:z6 ps.objs m=some (.arr n els))(ho0:o ()=0)(hl:len ()=(els ()).length){m' o' len'}(hx:ev (zB ps.tmps) x=.osl m' n o' len')(hm:z6 ps.objs m'=some (.arr n xs))(h0:o' ()=0)(hl':len' ()=(xs ()).length)(hw:Wid n xs) (hr:Room (fun _=>(((els ()).length+(xs ()).length:Nat):Int)) b) (hf:z8 d ⟨xT (scr m) ps.tmps,yN (scr m) (y6 ps.objs m)⟩=true) (hK:K ⟨wR (xT (scr m) ps.tmps) d (.osl d n (fun _=>0) (fun _=>(els ()).length+(xs ()).length)),yN (scr m) (y6 ps.objs m)++[(d,.arr n (fun _=>els ()++xs ()))]⟩):AppK t base x (some d) ps K :=
 ⟨.inl ⟨ps,d,d,n,b,z,xs,.refl ps,rfl,ht,.inr ⟨false,m',o',len',hx,hm,h0,hl'⟩,hw,.inr ⟨false,m,o,len,els,hb,ho,ho0,hl,hr,hf,hK⟩⟩⟩
theorem vM {t base x d ps K n b z xs}(ht:ty t=.sli n b z){m o len els}(hb:ev (zB ps.tmps) base=.osl m n o len)(ho:z6 ps.objs m=some (.arr n els))(ho0:o ()=0)(hl:len ()=(els ()).length)(hx:ev (zB ps.tmps) x=.sl xs)(hw:Wid n xs) (hr:Room (fun _=>(((els ()).length+(xs ()).length:Nat):Int)) b) (hf:z8 d ⟨xT (scr m) ps.tmps,yN (scr m) (y6 ps.objs m)⟩=true) (hK:K ⟨wR (xT (scr m) ps.tmps) d (.osl d n (fun _=>0) (fun _=>(els ()).length+(xs ()).length)),yN (scr m) (y6 ps.objs m)++[(d,.arr n (fun _=>els ()++xs ()))]⟩):AppK t base x (some d) ps K :=
 ⟨.inl ⟨ps,d,d,n,b,z,xs,.refl ps,rfl,ht,.inl (.inl hx),hw,.inr ⟨false,m,o,len,els,hb,ho,ho0,hl,hr,hf,hK⟩⟩⟩
theorem zFM {t base x d ps K n b z xs}(ht:ty t=.sli n b z){m o len els}(hb:ev (zB ps.tmps) base=.osl m n o len)(ho:z6 ps.objs m=some (.arr n els))(ho0:o ()=0)(hl:len ()=(els ()).length)(hx:ev (zB ps.tmps) x=.sl xs)(hw:Wid n xs) (hr:Room (fun _=>(((els ()).length+(xs ()).length:Nat):Int)) b) (hf:z8 m ⟨xT (scr m) ps.tmps,yN (scr m) (y6 ps.objs m)⟩=true) (hK:K ⟨wR (xT (scr m) ps.tmps) d (.osl m n (fun _=>0) (fun _=>(els ()).length+(xs ()).length)),yN (scr m) (y6 ps.objs m)++[(m,.arr n (fun _=>els ()++xs ()))]⟩):AppK t base x (some d) ps K :=
 ⟨.inl ⟨ps,d,m,n,b,z,xs,.refl ps,rfl,ht,.inl (.inl hx),hw,.inr ⟨false,m,o,len,els,hb,ho,ho0,hl,hr,hf,hK⟩⟩⟩
theorem cU {v:PV}{k i:Unit->Nat}{hs:List (PV×(Unit->Nat))}{K:PV->Prop}(h:k ()=i ())(hK:K v):HoleK ((v,k)::hs) i K:=⟨v,k,List.mem_cons_self,h,hK⟩
theorem sto0 {v v':PV}{k i:Unit->Nat}{K:List (PV×(Unit->Nat))->Prop}(h:k ()=i ())(hK:K [(v',k)]):StoH [(v,k)] i v' K:=⟨[],v,k,[],rfl,h,fun _ _ h=>(by cases h),hK⟩
theorem cB {i:Unit->Nat}{rows:Unit->List (List (List D))}(h:i ()<(rows ()).length):FocOk i rows []:=⟨h,fun _ _ h=>(by cases h)⟩
theorem zOY {i:Unit->Nat}{rows:Unit->List (List (List D))}{v:PV}{k:Unit->Nat}(h:i ()<(rows ()).length)(hk:k ()≠i ()):FocOk i rows [(v,k)]:=⟨h,fun v' k' h'=>by
 rcases List.mem_cons.1 h' with e|e;{cases e;exact hk}
 ·cases e⟩
theorem zRE {ops:List Oper}{ps:PS}{K:PS->Prop}(h:vW ops ops ps K):RegK ops ps K:=⟨.inl h⟩
theorem yF {i len:Nat}{els:List (List D)}(h:i+len<=els.length):FrOk (fun _=>i) (fun _=>len) (fun _=>els):=⟨h⟩
theorem zX {ops:List Oper}{ps:PS}{K:PS->Prop}(k:Nat)(hd:kV ops k=true)(h:bA true ops (ops.take k) ps (fun ps''=>vW ops (ops.drop k) ps'' K)):DrawK ops ps K:=⟨.inl ⟨k,ps,.refl ps,hd,h⟩⟩
theorem a5 {ops:List Oper}{ps ps':PS}{K:PS->Prop}(k:Nat)(hw:Wk ps ps')(hd:kV ops k=true)(h:bA true ops (ops.take k) ps' (fun ps''=>vW ops (ops.drop k) ps'' K)):DrawK ops ps K:=⟨.inl ⟨k,ps',hw,hd,h⟩⟩
theorem iB {ops:List Oper}{ps:PS}{K:PS->Prop}(k:Nat)(hd:kV ops k=true)(hm:(ndO (yM (ops.take k))&&mkIn ps (yM (ops.take k)))=true) (h:gT ops (ops.take k) ps (fun ps''=>eU ps''.tmps (yM (ops.take k))=true/\vW ops (ops.drop k) ⟨ps''.tmps,ps''.objs++yM (ops.take k)⟩ K)):DrawK ops ps K:=⟨.inr (.inl ⟨k,ps,.refl ps,hd,hm,h⟩)⟩
theorem zIL {ops:List Oper}{ps:PS}{K:PS->Prop}(k i0:Nat)(hd:kV ops k=true)(hm:zKC ops k i0 []=true)(h:zKB ops k i0 0 [] ps K):DrawK ops ps K:=⟨.inr (.inr (.inl ⟨k,i0,0,[],ps,.refl ps,hd,hm,h⟩))⟩
theorem zIM {ops:List Oper}{ps:PS}{K:PS->Prop}(k:Nat)(es:List (Nat×Nat))(hd:kV ops k=true)(he:efOk ops k es=true)(hm:(ndO (yM (ops.take k))&&mkIn ps (yM (ops.take k)))=true) (h:efWp ops es (yM (ops.take k)) (qT (vQ es) ps.objs) (ops.take k) 0 ps.tmps ps.objs (fun T O=>eU T (yM (ops.take k))=true/\vW ops (ops.drop k) ⟨T,O⟩ K)):DrawK ops ps K:=⟨.inr (.inr (.inr (.inl ⟨k,es,ps,.refl ps,hd,he,hm,h⟩)))⟩
theorem zCQ {ops:List Oper}{ps:PS}{K:PS->Prop}(k:Nat)(es:List (Nat×Nat))(hd:kV ops k=true)(he:apOk k es=true) (h:apWp ops es (anc ops) (qT (vQ es) ps.objs) (ops.take k) 0 ps.tmps ps.objs (fun T O=>vW ops (ops.drop k) ⟨gZ (vQ es) T,yN (scC (vQ es)) O⟩ K)):DrawK ops ps K:=⟨.inr (.inr (.inr (.inr (.inl ⟨k,es,ps,.refl ps,hd,he,h⟩))))⟩
theorem oX {ops:List Oper}{ps ps':PS}{K:PS->Prop}(k:Nat)(es:List (Nat×Nat))(hw:Wk ps ps')(hd:kV ops k=true)(he:apOk k es=true) (h:apWp ops es (anc ops) (qT (vQ es) ps'.objs) (ops.take k) 0 ps'.tmps ps'.objs (fun T O=>vW ops (ops.drop k) ⟨gZ (vQ es) T,yN (scC (vQ es)) O⟩ K)):DrawK ops ps K:=⟨.inr (.inr (.inr (.inr (.inl ⟨k,es,ps',hw,hd,he,h⟩))))⟩
theorem s6 {ops:List Oper}{ps ps':PS}{K:PS->Prop}{σ:Type}(inv:σ->PS)(good:σ->Prop)(hw:Wk ps ps')(hsel:Region.noSelect ops.toArray=true)(h:zBY ops ops.length (List.replicate ops.length false) ps' (fun q=>∃ s,good s/\Wk q (inv s)))(h2:∀ s,good s->K (inv s)):DrawK ops ps K:=⟨.inr (.inr (.inr (.inr (.inr ⟨σ,inv,good,ps',hw,hsel,h,h2⟩))))⟩
theorem zIJ {t:TypeId}{x:Operand}{T:List (Nat×PV)}{n s b:Nat}{z:List PV}{xs els:Unit->List (List D)}{o' len:Unit->Nat}{K:PV->Obj'->Prop}(h1:ty t=.sli s b z)(h2:ev (zB T) x=.sl xs)(h3:Wid s xs)(h4:o' ()=0)(h5:len ()=(els ()).length) (h6:Room (fun _=>(((els ()).length+(xs ()).length:Nat):Int)) b) (hK:K (.osl n s (fun _=>0) (fun _=>(els ()).length+(xs ()).length)) (.arr s (fun _=>els ()++xs ()))):EffA t x (.osl n s o' len) T (some (.arr s els)) n K :=
 ⟨s,b,z,xs,false,els,h1,.inl h2,h3,rfl,.inl ⟨o',len,rfl,h4,h5,h6,hK⟩⟩
theorem iA {g:Operand}{as_:List Operand}{T:List (Nat×PV)}{n:Nat}{K:PV->Obj'->Prop}{f:FuncId}{caps cargs:List PV}{m k s:Nat}{els els':Unit->List (List D)}{o' l':Unit->Nat}(hn:Nat->Nat) (h1:ev (zB T) g=.fn f caps) (h0:zPZ g=true) (h2:jA les (evs (ev (zB T)) as_++caps) (lO hn cargs)) (h3:Sound f cargs [] [(m,.arr s els)] (.osl k s o' l') [] [(k,.arr s els')]) (h4:hn m=n) (h5:hn k=n) (h6:yL lv cargs=true) (h7:yL (fixP n) (evs (ev (zB T)) as_)=true) (h8:K (.osl n s o' l') (.arr s els')):EffC g as_ T (some (.arr s els)) n K:=⟨f,caps,hn,cargs,m,k,s,els,els',o',l',h1,h0,bJ h2,h3,h4,h5,rfl,h6,h7,h8⟩
theorem wP {objs:List (Nat×Obj')}{f:FuncId}{args cargs:List PV}{kept:List (Nat×Obj')}{K:PV->Prop}{r:PV}(hn:Nat->Nat)(h2:jA les args (lO hn cargs))(h3:Sound f cargs kept [] r kept [])(h4:uA hn objs kept)(h5:ndO (zW hn kept)=true)(h6:ndO kept=true) (h7:d5 (bH kept) kept=true) (h8:yL lv cargs=true) (h9:lv r=true) (h10:nmIn (bH kept) r=true) (h11:K (ren hn r)):CallS true objs f args K:=⟨.inr ⟨rfl,hn,cargs,kept,r,bJ h2,h3,h4,h5,h6,h7,h8,h9,h10,h11⟩⟩
theorem kO (z:Int):nx .u32 z=z%4294967296:=by unfold nx;simp[IntKind.wrap,IntKind.signed,IntKind.bits]
theorem wT (z:Int):nx .u64 z=z%18446744073709551616:=by unfold nx;simp[IntKind.wrap,IntKind.signed,IntKind.bits]
theorem zI (n:Nat):@NatCast.natCast Int instNatCastInt n=((n:Nat):Int):=rfl
theorem z9 {p:Prop}[Decidable p]{A B:Unit->Prop}(h1:p->A ())(h2:¬p->B ()):Br (fun _=>decide p) A B:=⟨fun h=>h1 (of_decide_eq_true h),fun h=>h2 (of_decide_eq_false h)⟩
theorem wE {b:Bool}{A B:Unit->Prop}(h1:b=true->A ())(h2:b=false->B ()):Br (fun _=>b) A B:=⟨h1,h2⟩
theorem zE {p:Prop}[Decidable p]{A B:(Exit->PS->Prop)->Prop}{Q:Exit->PS->Prop}(h1:p->A Q)(h2:¬p->B Q):Cut (fun _=>decide p) A B Q:=⟨.inl ⟨fun h=>h1 (of_decide_eq_true h),fun h=>h2 (of_decide_eq_false h)⟩⟩
theorem yK {b:Bool}{A B:(Exit->PS->Prop)->Prop}{Q:Exit->PS->Prop}(h1:b=true->A Q)(h2:b=false->B Q):Cut (fun _=>b) A B Q:=⟨.inl ⟨h1,h2⟩⟩
theorem kD {p:Prop}[Decidable p]{A B:(Exit->PS->Prop)->Prop}{Q:Exit->PS->Prop}{σ:Type}(inv:σ->PS)(good:σ->Prop) (h1:p->A (eX inv good Q)) (h2:¬p->B (eX inv good Q)) (h3:∀ s,good s->Q .normal (inv s)):Cut (fun _=>decide p) A B Q :=
 ⟨.inr ⟨σ,inv,good,fun h=>h1 (of_decide_eq_true h),fun h=>h2 (of_decide_eq_false h),h3⟩⟩
theorem zJ0 {b:Bool}{A B:(Exit->PS->Prop)->Prop}{Q:Exit->PS->Prop}{σ:Type}(inv:σ->PS)(good:σ->Prop) (h1:b=true->A (eX inv good Q)) (h2:b=false->B (eX inv good Q)) (h3:∀ s,good s->Q .normal (inv s)):Cut (fun _=>b) A B Q :=
 ⟨.inr ⟨σ,inv,good,h1,h2,h3⟩⟩
theorem zD {z:Int}(h1:-9223372036854775808<=z)(h2:z<=9223372036854775807):InI64 (fun _=>z):=⟨h1,h2⟩
theorem wN {z:Int}(h:0<=z):Nn (fun _=>z):=⟨h⟩
theorem wS {z:Int}(h:z≠0):Nz (fun _=>z):=⟨h⟩
theorem zQ {k:Int}{n:Nat}(h1:0<=k)(h2:k<(n:Int)):Rng (fun _=>k) (fun _=>n):=⟨h1,h2⟩
theorem sE {l h:Int}{n:Nat}(h1:0<=l)(h2:l<=h)(h3:h<=(n:Int)):SlOk (fun _=>l) (fun _=>h) (fun _=>n):=⟨h1,h2,h3⟩
theorem zHK {l h:Int}(h1:l<h):SlNe (fun _=>l) (fun _=>h):=⟨h1⟩
theorem yE {n:Int}{b:Nat}(h1:0<=n)(h2:n*(b:Int)<=70368744177664):Room (fun _=>n) b:=⟨h1,h2⟩
theorem x7 {x y:Int}(h1:0<=x)(h2:x<=y):MkOk (fun _=>x) (fun _=>y):=⟨h1,h2⟩
theorem zG5 {n:Nat}{els:List (List D)}{k:Int}{K:List PV->Prop}(j:Nat)(hk:k=(j:Int))(c:List PV)(hf:yL qS c=true)(hn:c.length=n)(he:els[j]?=some (xJ c))(hK:K c):IdxOk n (fun _=>els) (fun _=>k) K :=
 ⟨⟨by simp only[hk];omega,c,hf,hn,by simp only[hk,Int.toNat_natCast];exact he,hK⟩⟩
theorem zP3 {n:Nat}{els:List (List D)}{i:Nat}{K:List PV->Prop}(j:Nat)(hk:i=j)(c:List PV)(hf:yL qS c=true)(hn:c.length=n)(he:els[j]?=some (xJ c))(hK:K c):ElOk n (fun _=>els) (fun _=>i) K :=
 ⟨⟨c,hf,hn,by simp only[hk];exact he,hK⟩⟩
theorem aV (a:PV):LeS a a:=⟨Le.refl a⟩
theorem zC {k:IntKind}{a b:Int}(h:a=b):LeS (.int k (fun _=>a)) (.int k (fun _=>b)):=⟨by simp[Le,h]⟩
theorem zY {a b:List (List D)}(h:a=b):LeS (.sl (fun _=>a)) (.sl (fun _=>b)):=⟨by simp[Le,h]⟩
theorem zR {b:List (List D)}(h:b=[]):LeS .nil (.sl (fun _=>b)):=⟨by simp[Le,h]⟩
theorem z4 {n m o o' l l':Nat}(h:o=o')(h2:l=l'):LeS (.osl n m (fun _=>o) (fun _=>l)) (.osl n m (fun _=>o') (fun _=>l')):=⟨by simp[Le,h,h2]⟩
theorem zA {a b:List (List D)}(h:a=b):ElsEq (fun _=>a) (fun _=>b):=⟨h⟩
theorem zK {a b:Bool}(h:a=b):LeS (.bool (fun _=>a)) (.bool (fun _=>b)):=⟨by simp[Le,h]⟩
theorem qH {a b:Bool}(h:b=!a):LeS (.nbool (fun _=>a)) (.bool (fun _=>b)):=⟨by simp[Le,h]⟩
theorem zU {b:Bool}(h:b=true):LeS .tt (.bool (fun _=>b)):=⟨by simp[Le,h]⟩
theorem zN {b:Bool}(h:b=false):LeS .ff (.bool (fun _=>b)):=⟨by simp[Le,h]⟩
def lm (l:List UInt32):List (List D):=l.map fun x=>[.int .u32 x.toNat]
abbrev nat (l:List UInt32):PV:=.sl (fun _=>lm l)
theorem zG (l:List UInt32):(lm l).length=l.length:=by simp[lm]
theorem pG (l:List UInt32):Wid 1 (fun _=>lm l):=⟨fun e he=>by simp only[lm,List.mem_map] at he;obtain⟨x,_,rfl⟩:=he;rfl⟩
theorem zMX {l:List UInt32}{j:Nat}(hj:j<l.length):(lm l)[j]?=some [.int .u32 ((l.getD j 0).toNat:Int)]:=by simp[lm,hj]
theorem yY {l:List UInt32}{k:Int}{K:List PV->Prop}(j:Nat)(hk:k=(j:Int))(hj:j<l.length)(hK:K [.int .u32 (fun _=>((l.getD j 0).toNat:Int))]):IdxOk 1 (fun _=>lm l) (fun _=>k) K :=
 zG5 j hk [.int .u32 (fun _=>((l.getD j 0).toNat:Int))] rfl rfl (zMX hj) hK
theorem kC {l:List UInt32}{i:Nat}{K:List PV->Prop}(j:Nat)(hk:i=j)(hj:j<l.length)(hK:K [.int .u32 (fun _=>((l.getD j 0).toNat:Int))]):ElOk 1 (fun _=>lm l) (fun _=>i) K :=
 zP3 j hk [.int .u32 (fun _=>((l.getD j 0).toNat:Int))] rfl rfl (zMX hj) hK
theorem zH3 (l:List UInt32)(n:Nat):(lm l).take n=lm (l.take n):=by simp[lm,List.map_take]
theorem zH4 (l:List UInt32)(n:Nat):(lm l).drop n=lm (l.drop n):=by simp[lm,List.map_drop]
theorem zJP (l m:List UInt32):lm l++lm m=lm (l++m):=by simp[lm]
theorem om {p:Prop}(h:p:=by (try dsimp only [zI] at *) <;> (try simp only[zG] at *) <;> omega):p:=h
theorem okA {p:Prop}(h:p:=by repeat' first|exact trivial|exact aV _|exact zU rfl|exact zN rfl|exact zR rfl|apply And.intro):p:=h
theorem okZ {p:Prop}(h:p:=by cbv;repeat' first|exact trivial|exact aV _|exact zA rfl|exact zC om|exact zR rfl|exact zN (by assumption)|exact zU (by assumption)|exact zK (by assumption)|apply And.intro):p:=h
theorem lR {a:PV}:LeS a a:=aV a
theorem wkZ {ps ps':PS}(h:leT ps.tmps ps'.tmps/\leO ps.objs ps'.objs:=by cbv;repeat' first|exact trivial|exact aV _|exact zA rfl|exact zC om|exact zR rfl|exact zN (by assumption)|exact zU (by assumption)|exact zK (by assumption)|apply And.intro)(hn:ndO ps'.objs=true:=by rfl):Wk ps ps':=.le h.1 h.2 hn
theorem cA {g as_ dst ps K f caps args' r}(h3:zJ f args' r)(h4:K (put ps dst r))(h1:ev (zB ps.tmps) g=.fn f caps:=by exact rfl)(h2:jA les (evs (ev (zB ps.tmps)) as_++caps) args':=by exact okA)(h5:nmIn [] r=true:=by exact rfl):CallOk g as_ dst ps K:=xO h1 h2 h3 h5 h4
theorem sF {f : FuncId} (fn : Func) {args : List PV} {kept eaten : List (Nat × Obj')} {r : PV} {kept' made : List (Nat × Obj')} (hwp : wp (nW fn) ⟨lS 0 args, kept ++ eaten⟩ (pA fn.results.toList r kept' made)) (hf : Pg.funcs[f]? = some fn := by rw [w5]; rfl) (hb : fn.body.isSome = true := by exact rfl) (hname : (fn.name == "runtime.NumGoroutine") = false := by exact rfl) (hN : uZ fn.ntmps (nW fn) = true := by exact rfl) (hargs : nle args.length fn.ntmps = true := by exact rfl) (hnk : kept'.map Prod.fst = kept.map Prod.fst := by exact rfl) : Sound f args kept eaten r kept' made := xP hf hb hname hN hargs hnk hwp
theorem rC {rs:List ResultVar}{r:PV}{ps:PS}(h:match fR ps rs with
 |some l=>les (tT l) (ren id r)| none=>False) (h3:lv r=true:=by exact rfl):RetOk rs r [] [] ps:=retC h3 h
end Go.Proofs.YtfainocfaddbdaaGreat
namespace Go.Proofs.YtfainocfaddbdaaGreat
def B:Nat:=4294967296
theorem xM:0<B:=by decide
theorem yB (x:UInt32):x.toNat<B:=x.toNat_lt
def val:List UInt32->Nat
 |[]=>0| x::r=>x.toNat+B*val r
def zF (n:Nat):List UInt32 :=
 if h:n=0 then [] else UInt32.ofNat (n%B)::zF (n/B)
termination_by n
decreasing_by exact Nat.div_lt_self (by omega) (by decide)
theorem limbs_zero:zF 0=[]:=by rw[zF];simp
theorem jZ {n:Nat}(h:n≠0):zF n=UInt32.ofNat (n%B)::zF (n/B):=by rw[zF];simp[h]
theorem jY (n:Nat):(UInt32.ofNat (n%B)).toNat=n%B:=by rw[UInt32.toNat_ofNat'];exact Nat.mod_eq_of_lt (Nat.mod_lt _ xM)
theorem zL (n:Nat):val (zF n)=n:=by
 induction n using Nat.strongRecOn with
 |_ n ih =>
  by_cases h:n=0;{subst h;rw[limbs_zero];rfl};{rw[jZ h,val,jY,ih (n/B) (Nat.div_lt_self (by omega) (by decide))];exact Nat.mod_add_div n B}
theorem wF:∀ (a b:List UInt32),val (a++b)=val a+B^a.length*val b
 |[],b=>by simp[val]| x::a,b=>by simp only[List.cons_append,val,List.length_cons,wF a b];rw[Nat.mul_add,Nat.pow_succ,<-Nat.mul_assoc,Nat.mul_comm B (B^a.length)];omega
theorem xD:∀ (l:List UInt32),val l<B^l.length
 |[]=>by simp[val]| x::r=>by have h1:=xD r;have h2:=yB x;have h3:B*(val r+1)<=B*B^r.length:=Nat.mul_le_mul_left _ h1;simp only[val,List.length_cons,Nat.pow_succ];rw[Nat.mul_comm (B^r.length) B];rw[Nat.mul_add] at h3;omega
def gH:List UInt32->Bool
 |[]=>true| [x]=>x != 0| _::y::r=>gH (y::r)
theorem o8 (x:UInt32){r:List UInt32}(h:r≠[]):gH (x::r)=gH r:=by
 cases r with
 |nil=>exact absurd rfl h| cons y r=>rfl
theorem zB0:∀ {l:List UInt32},gH l=true->l≠[]->0<val l
 |[],_,h=>absurd rfl h| [x],h,_=>by
  (have h1:x≠0:=by simpa[gH] using h);have:x.toNat≠0:=fun e=>h1 (UInt32.toNat_inj.1 e)
  simp only[val];omega
 |x::y::r,h,_=>by have h1:=zB0 (l:=y::r) h (by simp);have:B*1<=B*val (y::r):=Nat.mul_le_mul_left _ h1;have h2:(0:Nat)<B:=xM;show 0<x.toNat+B*val (y::r);omega
theorem sW:∀ {l:List UInt32},gH l=true->zF (val l)=l
 |[],_=>by simp[val,limbs_zero]| x::r,h=>by
  (have hp:=zB0 h (by simp);rw[jZ (by omega)];have hx:=yB x;have h1:val (x::r)%B=x.toNat:=by simp only[val];rw[Nat.add_mul_mod_self_left,Nat.mod_eq_of_lt hx]);have h2:val (x::r)/B=val r:=by simp only[val];rw[Nat.add_mul_div_left _ _ xM,Nat.div_eq_of_lt hx];omega
  rw[h1,h2];have hr:gH r=true:=by
   cases r with
   |nil=>rfl| cons y r=>exact h
  rw[sW hr];congr 1;exact UInt32.toNat_inj.1 (by rw[UInt32.toNat_ofNat'];exact Nat.mod_eq_of_lt hx)
theorem dY (n:Nat):gH (zF n)=true:=by
 induction n using Nat.strongRecOn with
 |_ n ih =>
  by_cases h:n=0;{subst h;rw[limbs_zero];rfl}
  ·rw[jZ h];by_cases h2:n/B=0
   ·(rw[h2,limbs_zero];have hlt:n<B:=(Nat.div_eq_zero_iff_lt xM).1 h2;have:(UInt32.ofNat (n%B)).toNat≠0:=by rw[jY,Nat.mod_eq_of_lt hlt];exact h);simp only[gH,bne_iff_ne,ne_eq]
    exact fun e=>this (by rw[e];rfl)
   {rw[o8 _ (by rw[jZ h2];simp)];exact ih _ (Nat.div_lt_self (by omega) (by decide))}
theorem pR (l:List UInt32)(x:UInt32):gH (l++[x])=(x != 0):=by
 induction l with
 |nil=>rfl| cons y l ih=>rw[List.cons_append,o8 _ (by simp),ih]
theorem zAS (l:List UInt32):val (l++[0])=val l:=by rw[wF];simp[val]
theorem lT:∀ {a b:List UInt32},a.length=b.length->val a=val b->a=b
 |[],[],_,_=>rfl| x::a,y::b,hl,hv=>by
  (simp only[val] at hv;have hx:=yB x;have hy:=yB y;have h1:x.toNat=y.toNat:=by have:=congrArg (· % B) hv;simp only[Nat.add_mul_mod_self_left,Nat.mod_eq_of_lt hx,Nat.mod_eq_of_lt hy] at this;exact this);have h2:val a=val b:=by rw[h1] at hv;exact Nat.eq_of_mul_eq_mul_left xM (Nat.add_left_cancel hv)
  rw[UInt32.toNat_inj.1 h1,lT (by simpa using hl) h2]
 |[],y::b,hl,_=>by simp at hl| x::a,[],hl,_=>by simp at hl
theorem z3 {n k:Nat}(h:n<B^k):(zF n).length<=k:=by
 induction k generalizing n with
 |zero =>
  (have:n=0:=by simpa using h);subst this
  rw[limbs_zero];simp
 |succ k ih =>
  by_cases h0:n=0;{subst h0;rw[limbs_zero];simp}
  ·(rw[jZ h0,List.length_cons];have:n/B<B^k:=by rw[Nat.div_lt_iff_lt_mul xM];rw[Nat.pow_succ] at h;exact h);have:=ih this;omega
theorem zV (l:List UInt32):(zF (val l)).length<=l.length:=z3 (xD l)
theorem lP {n k:Nat}(h:B^k<=n):k<(zF n).length:=by rcases Nat.lt_or_ge k (zF n).length with h'|h';{exact h'};{have h1:=xD (zF n);rw[zL] at h1;have:B^(zF n).length<=B^k:=Nat.pow_le_pow_right xM h';omega}
theorem xA {n:Nat}:zF n=[]↔n=0:=by constructor;{intro h;have:=zL n;rw[h] at this;exact this.symm};{intro h;subst h;exact limbs_zero}
theorem jT (l:List UInt32){n:Nat}(h:n<l.length):l.take (n+1)=l.take n++[l.getD n 0]:=by rw[List.take_add_one];simp[h]
theorem sA (l:List UInt32){m:Nat}(h:m<l.length):val l=val (l.take m)+B^m*((l.getD m 0).toNat+B*val (l.drop (m+1))):=by
 have e:l=l.take m++(l.getD m 0::l.drop (m+1)):=by
  (have:l.drop m=l.getD m 0::l.drop (m+1):=by rw[List.drop_eq_getElem_cons h];simp[h]);rw[<-this,List.take_append_drop]
 have hl:(l.take m).length=m:=by simp;omega
 calc val l=val (l.take m++(l.getD m 0::l.drop (m+1))):=by rw[<-e]
  _=_:=by rw[wF,hl];rfl
theorem xV (l:List UInt32)(m:Nat):val (l.take m)<B^m:=by
 have h1:=xD (l.take m);have h2:(l.take m).length<=m:=by simp;omega
 exact Nat.lt_of_lt_of_le h1 (Nat.pow_le_pow_right xM h2)
theorem zM3 {a b:List UInt32}{m:Nat}(ha:m<a.length)(hb:m<b.length)(hd:a.drop (m+1)=b.drop (m+1))(h:(a.getD m 0).toNat<(b.getD m 0).toNat):val a<val b:=by
 rw[sA a ha,sA b hb,hd];have h1:=xV a m;have h2:(a.getD m 0).toNat+1+B*val (b.drop (m+1))<=(b.getD m 0).toNat+B*val (b.drop (m+1)):=by omega
 have h3:=Nat.mul_le_mul_left (B^m) h2;have h4:B^m*((a.getD m 0).toNat+1+B*val (b.drop (m+1)))=B^m*((a.getD m 0).toNat+B*val (b.drop (m+1)))+B^m:=by rw[Nat.add_right_comm,Nat.mul_add (B^m) _ 1,Nat.mul_one]
 omega
theorem mP {n m:Nat}(h:(zF n).length<(zF m).length):n<m:=by have h1:=xD (zF n);rw[zL] at h1;rcases Nat.lt_or_ge n m with h'|h';{exact h'};{have h2:=z3 (Nat.lt_of_le_of_lt h' h1);omega}
def vJ (a b:Nat):Int:=if a<b then -1 else if b<a then 1 else 0
theorem iF {a b:Nat}(h:a<b):vJ a b=-1:=by simp[vJ,h]
theorem iG {a b:Nat}(h:b<a):vJ a b=1:=by simp[vJ,h,Nat.not_lt.2 (Nat.le_of_lt h)]
theorem zCV (a:Nat):vJ a a=0:=by simp[vJ]
theorem zDQ (l:List UInt32)(x:UInt32):val (l++[x])=val l+B^l.length*x.toNat:=by rw[wF];simp[val]
theorem rI (l:List UInt32){n:Nat}(h:n<l.length):val (l.take (n+1))=val (l.take n)+B^n*(l.getD n 0).toNat:=by rw[jT l h,zDQ];congr 3;simp;omega
theorem zT (l:List UInt32)(n:Nat):val (l.take (n+1))=val (l.take n)+B^n*(l.getD n 0).toNat:=by rcases Nat.lt_or_ge n l.length with h|h;{exact rI l h};{rw[List.take_of_length_le (by omega),List.take_of_length_le h];simp[List.getElem?_eq_none h]}
theorem w7 (l:List UInt32){n:Nat}(h:n<l.length)(x:UInt32):val ((l.set n x).take (n+1))=val (l.take n)+B^n*x.toNat:=by rw[rI _ (by simpa using h)];congr 2;{rw[List.take_set_of_le (Nat.le_refl _)]};{simp[h]}
theorem xG (n:Nat):(UInt32.ofNat n).toNat=n%B:=by rw[UInt32.toNat_ofNat'];rfl
theorem dM (l:List UInt32){j:Nat}(h:j<l.length)(x:UInt32):val (l.set j x)+B^j*(l.getD j 0).toNat=val l+B^j*x.toNat:=by
 have hs:j<(l.set j x).length:=by simpa using h
 rw[sA l h,sA (l.set j x) hs];have e1:(l.set j x).take j=l.take j:=List.take_set_of_le (Nat.le_refl _);have e2:(l.set j x).drop (j+1)=l.drop (j+1):=by rw[List.drop_set_of_lt (by omega)]
 have e3:(l.set j x).getD j 0=x:=by simp[h]
 rw[e1,e2,e3,Nat.mul_add,Nat.mul_add];omega
theorem kW (n:Nat):val (List.replicate n 0)=0:=by
 induction n with
 |zero=>rfl| succ n ih=>simp[List.replicate_succ,val,ih]
theorem dB (l:List UInt32)(j k:Nat)(x:UInt32)(h:j≠k):(l.set j x).getD k 0=l.getD k 0:=by simp[List.getElem?_set_ne h]
end Go.Proofs.YtfainocfaddbdaaGreat
