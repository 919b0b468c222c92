/- A part of the proof: PmQ, PmR. -/
import Derived.Test.YtfainocfaddbdaaGreatU13
import Derived.Deep.LoopGhost
import Derived.Scope
set_option linter.all false
namespace Go.Proofs.YtfainocfaddbdaaGreat
open Go
def jP (N:Nat):Code->Bool
 |.region _ ops _=>ops.toList.all (rX N)| .seq a b=>jP N a&&jP N b| .cond _ a b=>jP N a&&jP N b| .block _ b=>jP N b| .loop b=>jP N b| .scope b=>jP N b| _=>true
theorem zEP:Pg.follows .mixedOrders=true:=by rw[vJ];rfl
section
variable {w0:World} {S0:Nat->Nat->Prop} {K0:Nat->Prop} {N:Cx}
def Meet (w0:World) (S0:Nat->Nat->Prop) (K0:Nat->Prop) (N:Cx) {σ:Type} (inv:σ->PS) (good:σ->Prop) (Q:Exit->PS->Prop):Exit->Act->World->Prop:=fun e a w=>match e with
 |.normal=>∃ s S β,good s/\Sim w0 S0 K0 N (zA (inv s).tmps) (inv s).objs a w S β| e=>∃ ps S β,Q e ps/\Sim w0 S0 K0 N (zA ps.tmps) ps.objs a w S β
theorem zQS {σ:Type}{inv:σ->PS}{good:σ->Prop}{Q:Exit->PS->Prop}:∀ e ps' a' w' S' β',zGX inv good Q e ps'->Sim w0 S0 K0 N (zA ps'.tmps) ps'.objs a' w' S' β'->Meet w0 S0 K0 N inv good Q e a' w':=by
 intro e ps' a' w' S' β' hq hs;cases e with
 |normal =>
  obtain⟨s,hg,hw⟩:=hq;obtain⟨S2,β2,h2⟩:=hw.sound hs;exact⟨s,S2,β2,hg,h2⟩
 |exit i=>exact⟨ps',S',β',hq,hs⟩| goto l=>exact⟨ps',S',β',hq,hs⟩| ret=>exact⟨ps',S',β',hq,hs⟩| panic ch=>exact⟨ps',S',β',hq,hs⟩| outgrown=>exact⟨ps',S',β',hq,hs⟩
theorem meet {σ:Type}{inv:σ->PS}{good:σ->Prop}{Q:Exit->PS->Prop}{QM:Exit->Act->World->Prop}(hk:∀ e ps' a' w' S' β',Q e ps'->Sim w0 S0 K0 N (zA ps'.tmps) ps'.objs a' w' S' β'->QM e a' w') (hJ:∀ s,good s->Q .normal (inv s)):∀ e a w,Meet w0 S0 K0 N inv good Q e a w->QM e a w:=by
 intro e a w h;cases e with
 |normal=>obtain⟨s,S,β,hg,hs⟩:=h;exact hk _ _ _ _ _ _ (hJ s hg) hs
 |exit i=>obtain⟨ps,S,β,hq,hs⟩:=h;exact hk _ _ _ _ _ _ hq hs
 |goto l=>obtain⟨ps,S,β,hq,hs⟩:=h;exact hk _ _ _ _ _ _ hq hs
 |ret=>obtain⟨ps,S,β,hq,hs⟩:=h;exact hk _ _ _ _ _ _ hq hs
 |panic ch=>obtain⟨ps,S,β,hq,hs⟩:=h;exact hk _ _ _ _ _ _ hq hs
 |outgrown=>obtain⟨ps,S,β,hq,hs⟩:=h;exact hk _ _ _ _ _ _ hq hs
theorem zQ2:∀ (c:Code),jP N c=true->∀ {ps:PS} {Q:Exit->PS->Prop} {a:Act} {w:World} {S:Nat->Nat->Prop} {β:Bm} {QM:Exit->Act->World->Prop},Sim w0 S0 K0 N (zA ps.tmps) ps.objs a w S β->wp c ps Q->(∀ e ps' a' w' S' β',Q e ps'->Sim w0 S0 K0 N (zA ps'.tmps) ps'.objs a' w' S' β'->QM e a' w')->c.wp Pg QM a w:=by
 intro c;induction c with
 |skip=>intro _ ps Q a w S β QM h hs hk;exact wp_skip (hk _ _ _ _ _ _ hs h)| region id ops draw =>
  intro hc ps Q a w S β QM h hs hk;simp only[jP,f8] at hc;cases draw with
  |false =>
   simp only[wp] at hs;refine wp_region_list ?_;have hgo:qY ops.toList ops.toList ps (Q .normal)->_:=fun hs=>sG (Q:=QM) (K:=Q .normal) (fun ps' a' w' S' β' hq hsim=>hk _ _ _ _ _ _ hq hsim) ops.toList hc h hs;split at hs;{rcases hs.h with hs|⟨σ,inv,good,h1,h2⟩;{simpa using hgo hs};{have:=sG (Q:=QM) (K:=fun ps'=>∃ s,good s/\Wk ps' (inv s)) (fun ps' a' w' S' β' hq hsim=>by obtain⟨s,g,k⟩:=hq;obtain⟨S2,β2,h3⟩:=k.sound hsim;exact hk _ _ _ _ _ _ (h2 s g) h3) ops.toList hc h h1;simpa using this}};{simpa using hgo hs}
  |true =>
   simp only[wp] at hs;refine wp_region_any zEP ?_;have:=zL2 hs (Q:=QM) hc (fun ps' a' w' S' β' hq hsim=>hk _ _ _ _ _ _ hq hsim) h;simpa using this
 |seq x y ihx ihy =>
  intro hc ps Q a w S β QM h hs hk;simp only[jP,y9] at hc;simp only[wp] at hs;refine Go.wp_seq (ihx hc.1 h hs ?_);intro e ps' a' w' S' β' hq hsim;cases e with
  |normal=>exact ihy hc.2 hsim hq hk| exit i=>exact hk _ _ _ _ _ _ hq hsim| goto l=>exact hk _ _ _ _ _ _ hq hsim| ret=>exact hk _ _ _ _ _ _ hq hsim| panic ch=>exact hk _ _ _ _ _ _ hq hsim| outgrown=>exact hk _ _ _ _ _ _ hq hsim
 |cond x y z ihy ihz =>
  intro hc ps Q a w S β QM h hs hk;simp only[jP,y9] at hc;have hr:=h.eval x;simp only[wp] at hs;split at hs;{rename_i hx;rw[hx] at hr;exact wp_cond_true (o5 hr) (ihy hc.1 h hs hk)};{rename_i hx;rw[hx] at hr;exact wp_cond_false (o6 hr) (ihz hc.2 h hs hk)};{rename_i b hx;rw[hx] at hr;rcases hs.h with hs|⟨σ,inv,good,hA,hB,hJ⟩;{exact wp_cond_split (aB hr) (fun e=>ihy hc.1 h (hs.1 e) hk) (fun e=>ihz hc.2 h (hs.2 e) hk)};{exact wp_cond_split (aB hr) (fun e=>Code.wp_mono (meet hk hJ) (ihy hc.1 h (hA e) zQS)) (fun e=>Code.wp_mono (meet hk hJ) (ihz hc.2 h (hB e) zQS))}};{rename_i b hx;rw[hx] at hr;rcases hs.h with hs|⟨σ,inv,good,hA,hB,hJ⟩;{exact wp_cond_split (bM hr) (fun e=>ihy hc.1 h (hs.2 (by simpa using e)) hk) (fun e=>ihz hc.2 h (hs.1 (by simpa using e)) hk)};{exact wp_cond_split (bM hr) (fun e=>Code.wp_mono (meet hk hJ) (ihy hc.1 h (hB (by simpa using e)) zQS)) (fun e=>Code.wp_mono (meet hk hJ) (ihz hc.2 h (hA (by simpa using e)) zQS))}};{exact hs.elim}
 |block id b ih =>
  intro hc ps Q a w S β QM h hs hk;simp only[jP] at hc;simp only[wp] at hs;refine Go.wp_block (ih hc h hs ?_);intro e ps' a' w' S' β' hq hsim;cases e with
  |exit i =>
   simp only[Exit.inBlock];cases hb:nqb i id with
   |true =>
    have:=yM hb;subst this;simp only[hb,cond_true] at hq;rw[if_pos rfl];exact hk _ _ _ _ _ _ hq hsim
   |false =>
    (have hne:i≠id:=fun e=>by subst e;simp at hb);simp only[hb,cond_false] at hq
    rw[if_neg hne];exact hk _ _ _ _ _ _ hq hsim
  |normal=>exact hk _ _ _ _ _ _ hq hsim| goto l=>exact hk _ _ _ _ _ _ hq hsim| ret=>exact hk _ _ _ _ _ _ hq hsim| panic ch=>exact hk _ _ _ _ _ _ hq hsim| outgrown=>exact hk _ _ _ _ _ _ hq hsim
 |exit id=>intro _ ps Q a w S β QM h hs hk;exact wp_exit (hk _ _ _ _ _ _ hs h)| label l=>intro _ ps Q a w S β QM h hs hk;exact wp_label (hk _ _ _ _ _ _ hs h)| scope b ih =>
  intro hc ps Q a w S β QM h hs hk;simp only[jP] at hc;simp only[wp] at hs;refine Go.wp_scope_straight (ih hc h hs ?_);intro e ps' a' w' S' β' hq hsim;cases e with
  |goto l=>exact hq.elim| normal=>exact hk _ _ _ _ _ _ hq hsim| exit i=>exact hk _ _ _ _ _ _ hq hsim| ret=>exact hk _ _ _ _ _ _ hq hsim| panic ch=>exact hk _ _ _ _ _ _ hq hsim| outgrown=>exact hk _ _ _ _ _ _ hq hsim
 |ret=>intro _ ps Q a w S β QM h hs hk;exact wp_ret (hk _ _ _ _ _ _ hs h)| loop b ih =>
  intro hc ps Q a w S β QM h hs hk;simp only[jP] at hc;simp only[wp] at hs;obtain⟨σ,inv,good,mu,s0,hg,hw,hround⟩:=hs.h;obtain⟨S1,β1,h1⟩:=hw.sound h;refine wp_loop_ghost (fun n a w=>∃ s S β,good s/\mu s=n/\Sim w0 S0 K0 N (zA (inv s).tmps) (inv s).objs a w S β) (mu s0) ⟨s0,S1,β1,hg,rfl,h1⟩ ?_;rintro n a' w' ⟨s,S2,β2,hgs,rfl,hsim⟩;refine ih hc hsim (hround s hgs) ?_;intro e ps' a2 w2 S3 β3 hq hsim2;cases e with
  |normal =>
   obtain⟨s',hg',hmu,hwk⟩:=hq;obtain⟨S4,β4,h4⟩:=hwk.sound hsim2;exact⟨mu s',hmu,s',S4,β4,hg',rfl,h4⟩
  |exit i=>exact hk _ _ _ _ _ _ hq hsim2| goto l=>exact hk _ _ _ _ _ _ hq hsim2| ret=>exact hk _ _ _ _ _ _ hq hsim2| panic ch=>exact hk _ _ _ _ _ _ hq hsim2| outgrown=>exact hk _ _ _ _ _ _ hq hsim2
 |_=>intro _ ps Q a w S β QM h hs hk;simp only[wp] at hs
theorem zPT {w:World}{S:Nat->Nat->Prop}{β:Bm}{t:Nat}{cs:List PV}{off:Nat}{pv:PV}(h:rdV (ty t) cs off=some pv){b o:Nat}(vals:Nat->Value) (hc:∀ j,j<cs.length->w.cell? ⟨b,o+j,none⟩=some (vals j)) (hr:∀ j,j<cs.length->Rep w S β (vals j) (cs.getD j .any)):∃ val,(loadVar t ⟨b,o+off,none⟩).run Pg w=.ok val w/\Rep w S β val pv:=by
 have hk:rdK (ty t) cs off (fun v=>v=pv):=by
  unfold rdV at h;unfold rdK;cases hno:(ty t).isNo with
  |true=>simp[hno] at h| false =>
   simp only[hno,cond_false] at h ⊢;cases hle:nle (off+(ty t).cells) cs.length with
   |false=>simp[hle] at h| true=>simp only[hle,cond_true,bL] at h ⊢;exact h
 obtain⟨pv',val,h1,h2,h3⟩:=rJ hk vals hc hr;subst h1;exact⟨val,by simpa[Instr.loadAt,Instr.sureAddr] using h2,h3⟩
def zEX (tmps:Array Value):ResultVar->Sem Value
 |.tmp t=>pure (tmps.getD t undef)| .cell a t=>do loadVar t (<-asAddr (tmps.getD a undef))
theorem zLR (fn:Func)(tmps:Array Value):results fn tmps=(do let vs <-fn.results.mapM (zEX tmps);pure (if h:vs.size=1 then vs[0] else .tuple vs)):=by unfold results;congr 2
theorem lV {ps:PS}{a:Act}{w:World}{S:Nat->Nat->Prop}{β:Bm}(h:Sim w0 S0 K0 N (zA ps.tmps) ps.objs a w S β):∀ (rs:List ResultVar) {l:List PV},b7 ps rs=some l ->∃ vs:List Value,(rs.mapM (zEX a.tmps):Sem (List Value)).run Pg w=.ok vs w/\RepL w S β vs.toArray l
 |[],l,he=>by simp only[b7,bL] at he;subst he;exact⟨[],rfl,rfl,fun j hj=>by simp at hj⟩| .tmp t::r,l,he=>by
  simp only[b7] at he;split at he
  ·rename_i l' hl';simp only[bL] at he;subst he;obtain⟨vs,h1,h2⟩:=lV h r hl';refine⟨a.tmps.getD t undef::vs,by rw[List.mapM_cons,Sem.run_bind];simp only[zEX,Sem.run_pure,Result.andThen_ok,Sem.run_bind,h1],by simpa using h2.1,fun j hj=>?_⟩;cases j with
   |zero=>simpa using h.tmp t| succ j=>simpa using h2.2 j (by simpa using hj)
  {cases he}
 |.cell x t::r,l,he=>by
  simp only[b7] at he;split at he
  ·rename_i n off hx;split at he
   ·rename_i cs ho;split at he
    ·rename_i v l' hv hl';simp only[bL] at he;subst he;obtain⟨vs,h1,h2⟩:=lV h r hl';have hr:=h.tmp x;rw[hx] at hr;obtain⟨b,hβ,hv'⟩:=k9 hr;obtain⟨b',us,T,hβ',hb,hsz,hrr⟩:=zHG h ho;rw[hβ] at hβ';cases hβ';obtain⟨val,h3,h4⟩:=zPT (w:=w) (S:=S) (β:=β) (b:=b) (o:=0) hv (fun j=>us.getD j undef) (fun j hj=>by rw[xA];exact qJ hb j oM) hrr;rw[xA] at h3;refine⟨val::vs,?_,by simpa using h2.1,fun j hj=>?_⟩
     ·(rw[List.mapM_cons];have e:(zEX a.tmps (.cell x t)).run Pg w=.ok val w:=by simp only[zEX,Sem.run_bind,hv',asAddr,Sem.run_pure,Result.andThen_ok,h3]);simp only[Sem.run_bind,e,Sem.run_pure,Result.andThen_ok,h1]
     ·cases j with
      |zero=>simpa using h4| succ j=>simpa using h2.2 j (by simpa using hj)
    {cases he}
   {cases he}
  {cases he}
theorem zEM {fn:Func}{ps:PS}{a:Act}{w:World}{S:Nat->Nat->Prop}{β:Bm}(h:Sim w0 S0 K0 N (zA ps.tmps) ps.objs a w S β){l:List PV}(hl:b7 ps fn.results.toList=some l):∃ v,(results fn a.tmps).run Pg w=.ok v w/\Rep w S β v (eI l):=by
 obtain⟨vs,h1,h2⟩:=lV h _ hl;refine⟨if h:vs.toArray.size=1 then vs.toArray[0] else .tuple vs.toArray,?_,?_⟩;{rw[zLR,Array.mapM_eq_mapM_toList,Sem.run_bind,Sem.run_map,h1];rfl}
 ·by_cases h3:vs.toArray.size=1
  ·rw[dif_pos h3];have h4:l.length=1:=by rw[<-h2.1];exact h3
   match l,h4 with
   |[x],_ =>
    have:=h2.2 0 (by simp);simp only[eI];simpa[h3] using this
  ·(rw[dif_neg h3];have h4:l.length≠1:=by rw[<-h2.1];exact h3);have:eI l=.tup l:=by
    match l with
    |[]=>rfl| [x]=>simp at h4| x::y::r=>rfl
   rw[this];exact .tup h2.1 h2.2
theorem zCC {h:Nat->Nat}:∀ {l:List (Nat×Obj')},zE3 h l->∀ {n o},(n,o)∈l->h n=n/\1000000<=n
 |(m,x)::r,H,n,o,hm=>by simp only[z9] at hm;rcases hm with hm|hm;{cases hm;exact H.1};{exact zCC H.2 hm}
theorem eJ {h:Nat->Nat}:∀ {l:List Nat},(l.map h).Nodup->l.Nodup
 |[],_=>List.nodup_nil| x::r,hnd=>by simp only[uC,tF] at hnd ⊢;exact⟨fun hx=>hnd.1 (yS.2 ⟨x,hx,rfl⟩),eJ hnd.2⟩
def tJ:Nat->List PV->List (Nat×PV)
 |_,[]=>[]| k,v::r=>(k,v)::tJ (k+1) r
theorem zF6:∀ (l:List PV) (k t:Nat),zA (tJ k l) t=if k<=t/\t<k+l.length then l.getD (t-k) .any else .any
 |[],k,t=>by simp[tJ,zA]| v::r,k,t=>by
  simp only[tJ,zA];by_cases h:k=t;{subst h;simp}
  ·rw[nbeq h];simp only[];rw[zF6 r (k+1) t];by_cases h2:k+1<=t/\t<k+1+r.length
   ·(rw[if_pos h2,if_pos (by simp only[x7];omega)];have:t-k=(t-(k+1))+1:=by omega);rw[this,mP]
   {rw[if_neg h2,if_neg (by simp only[x7];omega)]}
theorem zQ9 {f : FuncId} {fn : Func} {c : Code} (hf : Pg.funcs[f]? = some fn) (hb : fn.body = some c) (hname : (fn.name == "runtime.NumGoroutine") = false) (hN : jP fn.ntmps c = true) {args : List PV} (hargs : nle args.length fn.ntmps = true) {kept eaten:List (Nat × Obj')} {r:PV} {kept' made:List (Nat × Obj')} (hnk:kept'.map Prod.fst=kept.map Prod.fst) (hwp:wp c ⟨tJ 0 args,kept++eaten⟩ (pF fn.results.toList r kept' made)):Sound f args kept eaten r kept' made where
 isf vals w:=by
  (have hn : ¬ fn.name = "runtime.NumGoroutine" := by simpa using hname);simp[callFunc,hf,hn,hb]
 go w S β vals hbnd hobj hsz hrep:=by
  have hal:=t8 hargs;refine calls_of_wp hf hb ?_;have hsim:Sim w S (Blk β (kept++eaten)) ⟨fn.ntmps,β⟩ (zA (tJ 0 args)) (kept++eaten) { tmps:=vals++Array.replicate (fn.ntmps-vals.size) undef,defers:=[] } w S β:=by
   refine⟨rfl,by simp[hsz];omega,⟨zV _,rfl,rfl,rfl,fun _ _ _=>rfl,fun b vs T h=>⟨vs,h,rfl⟩,hbnd,fun _ _ _ h=>h,fun _ _ _ _ h=>h⟩,fun t=>?_,hobj,fun n o b hm hβ=>.inr ⟨n,o,hm,hβ⟩,fun _ _ _ _=>rfl⟩;rw[zF6];by_cases h:t<args.length
   ·(rw[if_pos oM];have h1:=hrep t h;have hlt:t<vals.size:=by omega);simpa[Array.getElem?_append_left hlt] using h1
   {rw[if_neg oM];exact wJ _}
  refine zQ2 c hN hsim hwp ?_;have fin:∀ ps' a' w' S' β',RetOk fn.results.toList r kept' made ps'->Sim w S (Blk β (kept++eaten)) ⟨fn.ntmps,β⟩ (zA ps'.tmps) ps'.objs a' w' S' β' ->
    a'.defers=[]/\∃ v,(results fn a'.tmps).run Pg w'=.ok v w'/\(∃ v' S' β',Ending.returned v=.returned v'/\Leads w S (Blk β (kept++eaten)) w' S'/\Rep w' S' β' v' r/\ObjsAt w' S' β' (kept'++made) /\
   (kept'.map Prod.fst=kept.map Prod.fst)/\(∀ n o,(n,o)∈kept->β' n=β n) /\
   (∀ n o b,(n,o)∈kept'++made->Own β' n o b->w.heap.size<=b\/Blk β (kept++eaten) b)):=by
   intro ps1 a' w' S1 β1 hr h1;obtain⟨ps',l,hn,hw,hl,hle,hlv,hobjs,hnd,hkid⟩:=hr.h;obtain⟨S2,β2,h2⟩:=hw.sound h1;obtain⟨v,h3,h4⟩:=zEM h2 hl;have hmem:∀ {n o},(n,o)∈kept'++made->(hn n,x9 (ren hn) o)∈ps'.objs/\c6 o=true:=fun hm=>mE hobjs hm;have hndn:=jW hnd;have fstH:∀ {n o},(n,o)∈kept'++made->∀ {m o'},(m,o')∈kept'++made->hn n=hn m->n=m:=fun hm _ _ hm' he=>nG hndn hm hm' he;refine⟨h2.dfr,v,h3,v,S2,β2.ren hn,rfl,h2.ld,zIJ (h4.le _ hle) hlv,⟨?_,fun n o hm=>zN4 (hmem hm).2 (h2.obj.at_ _ _ (hmem hm).1),fun n o b hm hβ=>?_,
    fun n o m o' b hm hm' hβ hβ'=>fstH hm hm' (h2.obj.inj _ _ _ _ b (hmem hm).1 (hmem hm').1 (sE.1 hβ) (sE.1 hβ'))⟩,hnk,fun n o hm=>?_,fun n o b hm hβ=>h2.own _ _ b (hmem hm).1 (sE.1 hβ)⟩
   {rw[gY] at hndn;exact eJ hndn};{obtain⟨h5,h6⟩:=h2.obj.un _ _ b (hmem hm).1 (sE.1 hβ);exact⟨fun i hS=>absurd (h5 i hS) (zFV (hmem hm).2),h6⟩};{obtain⟨o',hm'⟩:=zCX hnk.symm hm;obtain⟨e1,e2⟩:=zCC hkid hm';have:=h2.keep n _ (by have:=(hmem (dB made hm')).1;rwa [e1] at this) e2;show β2 (hn n)=β n;rw[e1];exact this}
  intro e ps' a' w' S' β' hq hs';cases e with
  |normal=>exact fin _ _ _ _ _ hq hs'| ret=>exact fin _ _ _ _ _ hq hs'| exit i=>exact hq.elim| goto l=>exact hq.elim| panic ch=>exact hq.elim| outgrown=>exact hq.elim
end
def zBM (f:Func):Code:=f.body.getD .skip
theorem yW {f : FuncId} {fn : Func} (hf : Pg.funcs[f]? = some fn) (hb : fn.body.isSome = true) (hname : (fn.name == "runtime.NumGoroutine") = false) (hN : jP fn.ntmps (zBM fn) = true) {args : List PV} (hargs : nle args.length fn.ntmps = true) {kept eaten:List (Nat × Obj')} {r:PV} {kept' made:List (Nat × Obj')} (hnk:kept'.map Prod.fst=kept.map Prod.fst) (hwp:wp (zBM fn) ⟨tJ 0 args,kept++eaten⟩ (pF fn.results.toList r kept' made)):Sound f args kept eaten r kept' made:=by
 obtain⟨c,hc⟩:=zQ0.1 hb;have:zBM fn=c:=by simp[zBM,hc]
 rw[this] at hN hwp;exact zQ9 hf hc hname hN hargs hnk hwp
theorem wL {g as_ dst ps K f caps args' r}(h1:ev (zA ps.tmps) g=.fn f caps)(h2:fO les (evs (ev (zA ps.tmps)) as_++caps) args')(h3:zG f args' r)(h5:nmIn [] r=true)(h4:K (put ps dst r)):CallOk g as_ dst ps K :=
 ⟨ps,.refl ps,f,caps,h1,.inl ⟨args',r,pK h2,h3,h5,h4⟩⟩
theorem jB {rs:List ResultVar}{r:PV}{ps:PS}{l:List PV}(h1:b7 ps rs=some l)(h2:les (eI l) (ren id r))(h3:lv r=true):RetOk rs r [] [] ps :=
 ⟨ps,l,id,.refl ps,h1,aG h2,h3,trivial,rfl,trivial⟩
theorem retC {rs:List ResultVar}{r:PV}{ps:PS}(h3:lv r=true)(h:match b7 ps rs with
  |some l=>les (eI l) (ren id r)| none=>False):RetOk rs r [] [] ps:=by
 cases h1:b7 ps rs with
 |none=>rw[h1] at h;exact h.elim| some l=>rw[h1] at h;exact jB h1 h h3
theorem zX {B:PS->(Exit->PS->Prop)->Prop}{ps:PS}{Q:Exit->PS->Prop}{σ:Type}(inv:σ->PS)(good:σ->Prop)(mu:σ->Nat)(s0:σ)(h0:good s0)(hw:Wk ps (inv s0)) (hr:∀ s,good s->B (inv s) (fun e ps'=>match e with
   |.normal=>∃ s',good s'/\mu s'<mu s/\Wk ps' (inv s')| e=>Q e ps')):LoopOk B ps Q:=⟨⟨σ,inv,good,mu,s0,h0,hw,hr⟩⟩
theorem zYM (v:PV):rn0 id v=v:=by cases v <;> rfl
theorem zCT {f:PV->PV}(h:∀ v,f v=v):∀ (l:List PV),vL f l=l
 |[]=>rfl| v::r=>by simp only[vL,h v,zCT h r]
theorem zYL (v:PV):rn1 id v=v:=by cases v <;> simp only[rn1,rn0,zCT zYM,id]
theorem zTB (v:PV):ren id v=v:=by cases v <;> simp only[ren,rn0,zCT zYL,id]
theorem zN6 {f:PV->PV}(h:∀ v,f v=v):∀ (l:List (PV×(Unit->Nat))),gF f l=l
 |[]=>rfl| (v,k)::r=>by simp only[gF,h v,zN6 h r]
theorem zJP (o:Obj'):x9 (ren id) o=o:=by cases o <;> simp only[x9,zCT zTB,zN6 zTB]
theorem retW {rs:List ResultVar}{r:PV}{ps ps':PS}{l:List PV}(hw:Wk ps ps')(h1:b7 ps' rs=some l)(h2:les (eI l) (ren id r))(h3:lv r=true):RetOk rs r [] [] ps :=
 ⟨ps',l,id,hw,h1,aG h2,h3,trivial,rfl,trivial⟩
theorem aR {g as_ dst ps ps' K f caps args' r}(hw:Wk ps ps')(h1:ev (zA ps'.tmps) g=.fn f caps)(h2:fO les (evs (ev (zA ps'.tmps)) as_++caps) args')(h3:zG f args' r)(h5:nmIn [] r=true)(h4:K (put ps' dst r)):CallOk g as_ dst ps K :=
 ⟨ps',hw,f,caps,h1,.inl ⟨args',r,pK h2,h3,h5,h4⟩⟩
theorem zZK {n:Nat}{els:List (List PV)}{d:Nat}{ps:PS}{K:PS->Prop}(h:K (put ps (some d) (slOf els))):BldK n els d ps K:=⟨.inl h⟩
theorem zWC {n:Nat}{els:List (List PV)}{d:Nat}{ps:PS}{K:PS->Prop}(hf:yJ d ps=true)(h:K ⟨uH ps.tmps d (.osl d n (fun _=>0) (fun _=>(yI els).length)),ps.objs++[(d,.arr n (fun _=>yI els))]⟩):BldK n els d ps K:=⟨.inr ⟨hf,h⟩⟩
theorem zEI {t base x d ps K n b z xs}(ht:ty t=.sli n b z){m o len els}(hb:ev (zA ps.tmps) base=.osl m n o len)(ho:yA ps.objs m=some (.arr n els))(ho0:o ()=0)(hl:len ()=(els ()).length){m' o' len'}(hx:ev (zA ps.tmps) x=.osl m' n o' len')(hm:yA ps.objs m'=some (.arr n xs))(h0:o' ()=0)(hl':len' ()=(xs ()).length)(hw:Wid n xs) (hr:Room (fun _=>(((els ()).length+(xs ()).length:Nat):Int)) b) (hf:yJ d ⟨wX (scr m) ps.tmps,y5 (scr m) (xT ps.objs m)⟩=true) (hK:K ⟨uH (wX (scr m) ps.tmps) d (.osl d n (fun _=>0) (fun _=>(els ()).length+(xs ()).length)),y5 (scr m) (xT ps.objs m)++[(d,.arr n (fun _=>els ()++xs ()))]⟩):AppK t base x (some d) ps K :=
 ⟨.inl ⟨ps,d,d,n,b,z,xs,.refl ps,rfl,ht,.inr ⟨false,m',o',len',hx,hm,h0,hl'⟩,hw,.inr ⟨false,m,o,len,els,hb,ho,ho0,hl,hr,hf,hK⟩⟩⟩
theorem vW {t base x d ps K n b z xs}(ht:ty t=.sli n b z){m o len els}(hb:ev (zA ps.tmps) base=.osl m n o len)(ho:yA ps.objs m=some (.arr n els))(ho0:o ()=0)(hl:len ()=(els ()).length)(hx:ev (zA ps.tmps) x=.sl xs)(hw:Wid n xs) (hr:Room (fun _=>(((els ()).length+(xs ()).length:Nat):Int)) b) (hf:yJ d ⟨wX (scr m) ps.tmps,y5 (scr m) (xT ps.objs m)⟩=true) (hK:K ⟨uH (wX (scr m) ps.tmps) d (.osl d n (fun _=>0) (fun _=>(els ()).length+(xs ()).length)),y5 (scr m) (xT ps.objs m)++[(d,.arr n (fun _=>els ()++xs ()))]⟩):AppK t base x (some d) ps K :=
 ⟨.inl ⟨ps,d,d,n,b,z,xs,.refl ps,rfl,ht,.inl (.inl hx),hw,.inr ⟨false,m,o,len,els,hb,ho,ho0,hl,hr,hf,hK⟩⟩⟩
theorem zKY {t base x d ps K n b z xs}(ht:ty t=.sli n b z){m o len els}(hb:ev (zA ps.tmps) base=.osl m n o len)(ho:yA ps.objs m=some (.arr n els))(ho0:o ()=0)(hl:len ()=(els ()).length)(hx:ev (zA ps.tmps) x=.sl xs)(hw:Wid n xs) (hr:Room (fun _=>(((els ()).length+(xs ()).length:Nat):Int)) b) (hf:yJ m ⟨wX (scr m) ps.tmps,y5 (scr m) (xT ps.objs m)⟩=true) (hK:K ⟨uH (wX (scr m) ps.tmps) d (.osl m n (fun _=>0) (fun _=>(els ()).length+(xs ()).length)),y5 (scr m) (xT ps.objs m)++[(m,.arr n (fun _=>els ()++xs ()))]⟩):AppK t base x (some d) ps K :=
 ⟨.inl ⟨ps,d,m,n,b,z,xs,.refl ps,rfl,ht,.inl (.inl hx),hw,.inr ⟨false,m,o,len,els,hb,ho,ho0,hl,hr,hf,hK⟩⟩⟩
theorem rT {v:PV}{k i:Unit->Nat}{hs:List (PV×(Unit->Nat))}{K:PV->Prop}(h:k ()=i ())(hK:K v):HoleK ((v,k)::hs) i K:=⟨v,k,xD,h,hK⟩
theorem sto0 {v v':PV}{k i:Unit->Nat}{K:List (PV×(Unit->Nat))->Prop}(h:k ()=i ())(hK:K [(v',k)]):StoH [(v,k)] i v' K:=⟨[],v,k,[],rfl,h,fun _ _ h=>(by cases h),hK⟩
theorem sU {i:Unit->Nat}{rows:Unit->List (List (List D))}(h:i ()<(rows ()).length):FocOk i rows []:=⟨h,fun _ _ h=>(by cases h)⟩
theorem zVX {i:Unit->Nat}{rows:Unit->List (List (List D))}{v:PV}{k:Unit->Nat}(h:i ()<(rows ()).length)(hk:k ()≠i ()):FocOk i rows [(v,k)]:=⟨h,fun v' k' h'=>by
 rcases z9.1 h' with e|e;{cases e;exact hk}
 ·cases e⟩
theorem zYQ {ops:List Oper}{ps:PS}{K:PS->Prop}(h:qY ops ops ps K):RegK ops ps K:=⟨.inl h⟩
theorem yG {i len:Nat}{els:List (List D)}(h:i+len<=els.length):FrOk (fun _=>i) (fun _=>len) (fun _=>els):=⟨h⟩
theorem zT {ops:List Oper}{ps:PS}{K:PS->Prop}(k:Nat)(hd:j9 ops k=true)(h:r8 true ops (ops.take k) ps (fun ps''=>qY ops (ops.drop k) ps'' K)):DrawK ops ps K:=⟨.inl ⟨k,ps,.refl ps,hd,h⟩⟩
theorem mH {ops:List Oper}{ps ps':PS}{K:PS->Prop}(k:Nat)(hw:Wk ps ps')(hd:j9 ops k=true)(h:r8 true ops (ops.take k) ps' (fun ps''=>qY ops (ops.drop k) ps'' K)):DrawK ops ps K:=⟨.inl ⟨k,ps',hw,hd,h⟩⟩
theorem oG {ops:List Oper}{ps:PS}{K:PS->Prop}(k:Nat)(hd:j9 ops k=true)(hm:(ndO (yZ (ops.take k))&&mkIn ps (yZ (ops.take k)))=true) (h:bC ops (ops.take k) ps (fun ps''=>zGW ps''.tmps (yZ (ops.take k))=true/\qY ops (ops.drop k) ⟨ps''.tmps,ps''.objs++yZ (ops.take k)⟩ K)):DrawK ops ps K:=⟨.inr (.inl ⟨k,ps,.refl ps,hd,hm,h⟩)⟩
theorem zOT {ops:List Oper}{ps:PS}{K:PS->Prop}(k i0:Nat)(hd:j9 ops k=true)(hm:zMD ops k i0 []=true)(h:zMC ops k i0 0 [] ps K):DrawK ops ps K:=⟨.inr (.inr (.inl ⟨k,i0,0,[],ps,.refl ps,hd,hm,h⟩))⟩
theorem zOS {ops:List Oper}{ps:PS}{K:PS->Prop}(k i0 n:Nat)(us:List Nat)(hd:j9 ops k=true)(hm:zMD ops k i0 us=true)(h:zMC ops k i0 n us ps K):DrawK ops ps K:=⟨.inr (.inr (.inl ⟨k,i0,n,us,ps,.refl ps,hd,hm,h⟩))⟩
theorem zOU {ops:List Oper}{ps:PS}{K:PS->Prop}(k:Nat)(es:List (Nat×Nat))(hd:j9 ops k=true)(he:efOk ops k es=true)(hm:(ndO (yZ (ops.take k))&&mkIn ps (yZ (ops.take k)))=true) (h:efWp ops es (yZ (ops.take k)) (hH (qM es) ps.objs) (ops.take k) 0 ps.tmps ps.objs (fun T O=>zGW T (yZ (ops.take k))=true/\qY ops (ops.drop k) ⟨T,O⟩ K)):DrawK ops ps K:=⟨.inr (.inr (.inr (.inl ⟨k,es,ps,.refl ps,hd,he,hm,h⟩)))⟩
theorem nP {ops:List Oper}{ps:PS}{K:PS->Prop}(k:Nat)(es:List (Nat×Nat))(hd:j9 ops k=true)(he:apOk k es=true) (h:apWp ops es (anc ops) (hH (qM es) ps.objs) (ops.take k) 0 ps.tmps ps.objs (fun T O=>qY ops (ops.drop k) ⟨bI (qM es) T,y5 (scC (qM es)) O⟩ K)):DrawK ops ps K:=⟨.inr (.inr (.inr (.inr (.inl ⟨k,es,ps,.refl ps,hd,he,h⟩))))⟩
theorem oH {ops:List Oper}{ps ps':PS}{K:PS->Prop}(k:Nat)(es:List (Nat×Nat))(hw:Wk ps ps')(hd:j9 ops k=true)(he:apOk k es=true) (h:apWp ops es (anc ops) (hH (qM es) ps'.objs) (ops.take k) 0 ps'.tmps ps'.objs (fun T O=>qY ops (ops.drop k) ⟨bI (qM es) T,y5 (scC (qM es)) O⟩ K)):DrawK ops ps K:=⟨.inr (.inr (.inr (.inr (.inl ⟨k,es,ps',hw,hd,he,h⟩))))⟩
theorem pP {ops:List Oper}{ps ps':PS}{K:PS->Prop}{σ:Type}(inv:σ->PS)(good:σ->Prop)(hw:Wk ps ps')(hsel:Region.noSelect ops.toArray=true)(h:zG1 ops ops.length (List.replicate ops.length false) ps' (fun q=>∃ s,good s/\Wk q (inv s)))(h2:∀ s,good s->K (inv s)):DrawK ops ps K:=⟨.inr (.inr (.inr (.inr (.inr ⟨σ,inv,good,ps',hw,hsel,h,h2⟩))))⟩
theorem oD {t:TypeId}{x:Operand}{T:List (Nat×PV)}{n s b:Nat}{z:List PV}{xs els:Unit->List (List D)}{o' len:Unit->Nat}{K:PV->Obj'->Prop}(h1:ty t=.sli s b z)(h2:ev (zA T) x=.sl xs)(h3:Wid s xs)(h4:o' ()=0)(h5:len ()=(els ()).length) (h6:Room (fun _=>(((els ()).length+(xs ()).length:Nat):Int)) b) (hK:K (.osl n s (fun _=>0) (fun _=>(els ()).length+(xs ()).length)) (.arr s (fun _=>els ()++xs ()))):EffA t x (.osl n s o' len) T (some (.arr s els)) n K :=
 ⟨s,b,z,xs,false,els,h1,.inl h2,h3,rfl,.inl ⟨o',len,rfl,h4,h5,h6,hK⟩⟩
theorem zSB {t:TypeId}{x:Operand}{T:List (Nat×PV)}{n s b:Nat}{z:List PV}{xs els:Unit->List (List D)}{K:PV->Obj'->Prop}(h1:ty t=.sli s b z)(h2:ev (zA T) x=.sl xs)(h3:Wid s xs) (h6:Room (fun _=>((xs ()).length:Nat)) b) (hK:K (.osl n s (fun _=>0) (fun _=>(xs ()).length)) (.arr s xs)):EffA t x .emp T (some (.arr s els)) n K :=
 ⟨s,b,z,xs,false,els,h1,.inl h2,h3,rfl,.inr ⟨rfl,h6,hK⟩⟩
theorem zC1 {g:Operand}{as_:List Operand}{T:List (Nat×PV)}{n:Nat}{K:PV->Obj'->Prop}{f:FuncId}{caps cargs:List PV}{m k s:Nat}{els els':Unit->List (List D)}{o' l':Unit->Nat}(hn:Nat->Nat) (h1:ev (zA T) g=.fn f caps) (h0:zW4 g=true) (h2:fO les (evs (ev (zA T)) as_++caps) (renL hn cargs)) (h3:Sound f cargs [] [(m,.arr s els)] (.osl k s o' l') [] [(k,.arr s els')]) (h4:hn m=n) (h5:hn k=n) (h6:yV lv cargs=true) (h7:yV (fixP n) (evs (ev (zA T)) as_)=true) (h8:K (.osl n s o' l') (.arr s els')):EffC g as_ T (some (.arr s els)) n K:=⟨f,caps,hn,cargs,m,k,s,els,els',o',l',h1,h0,pK h2,h3,h4,h5,rfl,h6,h7,h8⟩
theorem uE {objs:List (Nat×Obj')}{f:FuncId}{args cargs:List PV}{kept:List (Nat×Obj')}{K:PV->Prop}{r:PV}(hn:Nat->Nat)(h2:fO les args (renL hn cargs))(h3:Sound f cargs kept [] r kept [])(h4:kM hn objs kept)(h5:ndO (zW hn kept)=true)(h6:ndO kept=true) (h7:sM (pI kept) kept=true) (h8:yV lv cargs=true) (h9:lv r=true) (h10:nmIn (pI kept) r=true) (h11:K (ren hn r)):CallS true objs f args K:=⟨.inr ⟨rfl,hn,cargs,kept,r,pK h2,h3,h4,h5,h6,h7,h8,h9,h10,h11⟩⟩
theorem gW (z:Int):nx .u32 z=z%4294967296:=by unfold nx;simp[IntKind.wrap,IntKind.signed,IntKind.bits]
theorem uJ (z:Int):nx .u64 z=z%18446744073709551616:=by unfold nx;simp[IntKind.wrap,IntKind.signed,IntKind.bits]
theorem zI (n:Nat):@NatCast.natCast Int instNatCastInt n=((n:Nat):Int):=rfl
theorem yD {p:Prop}[Decidable p]{A B:Unit->Prop}(h1:p->A ())(h2:¬p->B ()):Br (fun _=>decide p) A B:=⟨fun h=>h1 (of_decide_eq_true h),fun h=>h2 (of_decide_eq_false h)⟩
theorem xK {b:Bool}{A B:Unit->Prop}(h1:b=true->A ())(h2:b=false->B ()):Br (fun _=>b) A B:=⟨h1,h2⟩
theorem zD {p:Prop}[Decidable p]{A B:(Exit->PS->Prop)->Prop}{Q:Exit->PS->Prop}(h1:p->A Q)(h2:¬p->B Q):Cut (fun _=>decide p) A B Q:=⟨.inl ⟨fun h=>h1 (of_decide_eq_true h),fun h=>h2 (of_decide_eq_false h)⟩⟩
theorem z6 {b:Bool}{A B:(Exit->PS->Prop)->Prop}{Q:Exit->PS->Prop}(h1:b=true->A Q)(h2:b=false->B Q):Cut (fun _=>b) A B Q:=⟨.inl ⟨h1,h2⟩⟩
theorem gI {p:Prop}[Decidable p]{A B:(Exit->PS->Prop)->Prop}{Q:Exit->PS->Prop}{σ:Type}(inv:σ->PS)(good:σ->Prop) (h1:p->A (zGX inv good Q)) (h2:¬p->B (zGX inv good Q)) (h3:∀ s,good s->Q .normal (inv s)):Cut (fun _=>decide p) A B Q :=
 ⟨.inr ⟨σ,inv,good,fun h=>h1 (of_decide_eq_true h),fun h=>h2 (of_decide_eq_false h),h3⟩⟩
theorem zQB {b:Bool}{A B:(Exit->PS->Prop)->Prop}{Q:Exit->PS->Prop}{σ:Type}(inv:σ->PS)(good:σ->Prop) (h1:b=true->A (zGX inv good Q)) (h2:b=false->B (zGX inv good Q)) (h3:∀ s,good s->Q .normal (inv s)):Cut (fun _=>b) A B Q :=
 ⟨.inr ⟨σ,inv,good,h1,h2,h3⟩⟩
theorem zC {z:Int}(h1:-9223372036854775808<=z)(h2:z<=9223372036854775807):InI64 (fun _=>z):=⟨h1,h2⟩
theorem v9 {z:Int}(h:0<=z):Nn (fun _=>z):=⟨h⟩
theorem uI {z:Int}(h:z≠0):Nz (fun _=>z):=⟨h⟩
theorem zQ {k:Int}{n:Nat}(h1:0<=k)(h2:k<(n:Int)):Rng (fun _=>k) (fun _=>n):=⟨h1,h2⟩
theorem m5 {l h:Int}{n:Nat}(h1:0<=l)(h2:l<=h)(h3:h<=(n:Int)):SlOk (fun _=>l) (fun _=>h) (fun _=>n):=⟨h1,h2,h3⟩
theorem zNP {l h:Int}(h1:l<h):SlNe (fun _=>l) (fun _=>h):=⟨h1⟩
theorem yB {n:Int}{b:Nat}(h1:0<=n)(h2:n*(b:Int)<=70368744177664):Room (fun _=>n) b:=⟨h1,h2⟩
theorem vF {x y:Int}(h1:0<=x)(h2:x<=y):MkOk (fun _=>x) (fun _=>y):=⟨h1,h2⟩
theorem zM3 {n:Nat}{els:List (List D)}{k:Int}{K:List PV->Prop}(j:Nat)(hk:k=(j:Int))(c:List PV)(hf:yV jN c=true)(hn:c.length=n)(he:els[j]?=some (x6 c))(hK:K c):IdxOk n (fun _=>els) (fun _=>k) K :=
 ⟨⟨by simp only[hk];omega,c,hf,hn,by simp only[hk,xN];exact he,hK⟩⟩
theorem zUH {n:Nat}{els:List (List D)}{i:Nat}{K:List PV->Prop}(j:Nat)(hk:i=j)(c:List PV)(hf:yV jN c=true)(hn:c.length=n)(he:els[j]?=some (x6 c))(hK:K c):ElOk n (fun _=>els) (fun _=>i) K :=
 ⟨⟨c,hf,hn,by simp only[hk];exact he,hK⟩⟩
theorem rS (a:PV):LeS a a:=⟨Le.refl a⟩
theorem zE {k:IntKind}{a b:Int}(h:a=b):LeS (.int k (fun _=>a)) (.int k (fun _=>b)):=⟨by simp[Le,h]⟩
theorem zY {a b:List (List D)}(h:a=b):LeS (.sl (fun _=>a)) (.sl (fun _=>b)):=⟨by simp[Le,h]⟩
theorem xB {b:List (List D)}(h:b=[]):LeS .nil (.sl (fun _=>b)):=⟨by simp[Le,h]⟩
theorem zU {n m o o' l l':Nat}(h:o=o')(h2:l=l'):LeS (.osl n m (fun _=>o) (fun _=>l)) (.osl n m (fun _=>o') (fun _=>l')):=⟨by simp[Le,h,h2]⟩
theorem zB {a b:List (List D)}(h:a=b):ElsEq (fun _=>a) (fun _=>b):=⟨h⟩
theorem yX {a b:Bool}(h:a=b):LeS (.bool (fun _=>a)) (.bool (fun _=>b)):=⟨by simp[Le,h]⟩
theorem jZ {a b:Bool}(h:b=!a):LeS (.nbool (fun _=>a)) (.bool (fun _=>b)):=⟨by simp[Le,h]⟩
theorem xQ {b:Bool}(h:b=true):LeS .tt (.bool (fun _=>b)):=⟨by simp[Le,h]⟩
theorem z5 {b:Bool}(h:b=false):LeS .ff (.bool (fun _=>b)):=⟨by simp[Le,h]⟩
def lm (l:List UInt32):List (List D):=l.map fun x=>[.int .u32 x.toNat]
abbrev nat (l:List UInt32):PV:=.sl (fun _=>lm l)
theorem zH (l:List UInt32):(lm l).length=l.length:=by simp[lm]
theorem l5 (l:List UInt32):Wid 1 (fun _=>lm l):=⟨fun e he=>by simp only[lm,yS] at he;obtain⟨x,_,rfl⟩:=he;rfl⟩
theorem zTK {l:List UInt32}{j:Nat}(hj:j<l.length):(lm l)[j]?=some [.int .u32 ((l.getD j 0).toNat:Int)]:=by simp[lm,hj]
theorem xO {l:List UInt32}{k:Int}{K:List PV->Prop}(j:Nat)(hk:k=(j:Int))(hj:j<l.length)(hK:K [.int .u32 (fun _=>((l.getD j 0).toNat:Int))]):IdxOk 1 (fun _=>lm l) (fun _=>k) K :=
 zM3 j hk [.int .u32 (fun _=>((l.getD j 0).toNat:Int))] rfl rfl (zTK hj) hK
theorem gH {l:List UInt32}{i:Nat}{K:List PV->Prop}(j:Nat)(hk:i=j)(hj:j<l.length)(hK:K [.int .u32 (fun _=>((l.getD j 0).toNat:Int))]):ElOk 1 (fun _=>lm l) (fun _=>i) K :=
 zUH j hk [.int .u32 (fun _=>((l.getD j 0).toNat:Int))] rfl rfl (zTK hj) hK
theorem zOA (l:List UInt32)(n:Nat):(lm l).take n=lm (l.take n):=by simp[lm,List.map_take]
theorem zOB (l:List UInt32)(n:Nat):(lm l).drop n=lm (l.drop n):=by simp[lm,List.map_drop]
theorem zPZ (l m:List UInt32):lm l++lm m=lm (l++m):=by simp[lm]
theorem om {p:Prop}(h:p:=by (try dsimp only [zI] at *) <;> (try simp only[zH] at *) <;> omega):p:=h
theorem okA {p:Prop}(h:p:=by repeat' first|exact trivial|exact rS _|exact xQ rfl|exact z5 rfl|exact xB rfl|apply And.intro):p:=h
theorem okZ {p:Prop}(h:p:=by cbv;repeat' first|exact trivial|exact rS _|exact zB rfl|exact zE om|exact xB rfl|exact z5 (by assumption)|exact xQ (by assumption)|exact yX (by assumption)|apply And.intro):p:=h
theorem lR {a:PV}:LeS a a:=rS a
theorem wkZ {ps ps':PS}(h:leT ps.tmps ps'.tmps/\leO ps.objs ps'.objs:=by cbv;repeat' first|exact trivial|exact rS _|exact zB rfl|exact zE om|exact xB rfl|exact z5 (by assumption)|exact xQ (by assumption)|exact yX (by assumption)|apply And.intro)(hn:ndO ps'.objs=true:=by rfl):Wk ps ps':=.le h.1 h.2 hn
theorem cA {g as_ dst ps K f caps args' r}(h3:zG f args' r)(h4:K (put ps dst r))(h1:ev (zA ps.tmps) g=.fn f caps:=by exact rfl)(h2:fO les (evs (ev (zA ps.tmps)) as_++caps) args':=by exact okA)(h5:nmIn [] r=true:=by exact rfl):CallOk g as_ dst ps K:=wL h1 h2 h3 h5 h4
theorem sF {f : FuncId} (fn : Func) {args : List PV} {kept eaten : List (Nat × Obj')} {r : PV} {kept' made : List (Nat × Obj')} (hwp : wp (zBM fn) ⟨tJ 0 args, kept ++ eaten⟩ (pF fn.results.toList r kept' made)) (hf : Pg.funcs[f]? = some fn := by rw [vJ]; rfl) (hb : fn.body.isSome = true := by exact rfl) (hname : (fn.name == "runtime.NumGoroutine") = false := by exact rfl) (hN : jP fn.ntmps (zBM fn) = true := by exact rfl) (hargs : nle args.length fn.ntmps = true := by exact rfl) (hnk : kept'.map Prod.fst = kept.map Prod.fst := by exact rfl) : Sound f args kept eaten r kept' made := yW hf hb hname hN hargs hnk hwp
theorem rC {rs:List ResultVar}{r:PV}{ps:PS}(h:match b7 ps rs with
 |some l=>les (eI l) (ren id r)| none=>False) (h3:lv r=true:=by exact rfl):RetOk rs r [] [] ps:=retC h3 h
theorem okY {p:Prop}(h:p:=by cbv;repeat' first|exact trivial|exact rS _|exact zB rfl|exact zE om|exact xB rfl|exact z5 (by assumption)|exact xQ (by assumption)|exact yX (by assumption)|exact⟨rfl⟩|apply And.intro):p:=h
theorem okR {p:Prop}(h:p:=by repeat' first|exact trivial|exact rfl|omega|apply And.intro):p:=h
theorem wkW {ps ps':PS}(h:leT ps.tmps ps'.tmps:=by exact okZ)(h':leO ps.objs ps'.objs:=by exact okY)(hn:ndO ps'.objs=true:=by rfl):Wk ps ps':=.le h h' hn
abbrev hnM0:Nat->Nat:=fun n=>match nqb n 1000005 with|true=>31|false=>n
abbrev hnM1:Nat->Nat:=fun n=>match nqb n 5 with|true=>31|false=>n
abbrev hnM2:Nat->Nat:=fun n=>match nqb n 1000002 with|true=>80|false=>match nqb n 1000004 with|true=>125|false=>n
abbrev hnM3:Nat->Nat:=fun n=>match nqb n 1000002 with|true=>80|false=>match nqb n 1000004 with|true=>125|false=>match nqb n 1000006 with|true=>1|false=>match nqb n 1000007 with|true=>7|false=>match nqb n 1000008 with|true=>12|false=>match nqb n 1000009 with|true=>138|false=>match nqb n 5 with|true=>31|false=>n
abbrev hnM4:Nat->Nat:=fun n=>match nqb n 1000001 with|true=>80|false=>n
abbrev hnM5:Nat->Nat:=fun n=>match nqb n 1000000 with|true=>13|false=>match nqb n 1000001 with|true=>48|false=>match nqb n 1000002 with|true=>26|false=>match nqb n 1000003 with|true=>60|false=>58
abbrev hnM6:Nat->Nat:=fun n=>match nqb n 1000000 with|true=>13|false=>match nqb n 1000001 with|true=>48|false=>match nqb n 1000002 with|true=>26|false=>match nqb n 1000003 with|true=>60|false=>68
abbrev hnM7:Nat->Nat:=fun n=>match nqb n 1000000 with|true=>13|false=>match nqb n 1000001 with|true=>48|false=>match nqb n 1000002 with|true=>26|false=>match nqb n 1000003 with|true=>60|false=>match nqb n 1000004 with|true=>68|false=>match nqb n 80 with|true=>26|false=>match nqb n 125 with|true=>68|false=>match nqb n 1000006 with|true=>4|false=>n
abbrev hnM8:Nat->Nat:=fun n=>match nqb n 1000009 with|true=>1000001|false=>n
abbrev hnM9:Nat->Nat:=fun n=>match nqb n 1000000 with|true=>301|false=>match nqb n 1000001 with|true=>302|false=>match nqb n 31 with|true=>302|false=>match nqb n 10 with|true=>301|false=>match nqb n 8 with|true=>302|false=>n
abbrev zUD:Nat->Nat:=fun n=>match nqb n 1000000 with|true=>301|false=>match nqb n 1000001 with|true=>302|false=>match nqb n 31 with|true=>302|false=>match nqb n 10 with|true=>301|false=>match nqb n 8 with|true=>302|false=>match nqb n 24 with|true=>305|false=>match nqb n 1000009 with|true=>305|false=>n
end Go.Proofs.YtfainocfaddbdaaGreat
