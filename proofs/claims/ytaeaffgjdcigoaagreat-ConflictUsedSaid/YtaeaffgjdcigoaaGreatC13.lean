/- A part of the proof: PmQ, PmR, PnA. -/
import Derived.Test.YtaeaffgjdcigoaaGreatC12
import Derived.Deep.LoopGhost
import Derived.Scope
set_option linter.all false
namespace Go.Proofs.YtaeaffgjdcigoaaGreat
open Go
def jI (N:Nat):Code->Bool
 |.region _ ops _=>ops.toList.all (pB N)| .seq a b=>jI N a&&jI N b| .cond _ a b=>jI N a&&jI N b| .block _ b=>jI N b| .loop b=>jI N b| .scope b=>jI N b| _=>true
theorem zEY:Pg.follows .mixedOrders=true:=by rw[uV];rfl
section
variable {w0:World} {S0:Nat->Nat->Prop} {K0:Nat->Prop} {N:Cx}
def Meet (w0:World) (S0:Nat->Nat->Prop) (K0:Nat->Prop) (N:Cx) {σ:Type} (inv:σ->PS) (good:σ->Prop) (Q:Exit->PS->Prop):Exit->Act->World->Prop:=fun e a w=>match e with
 |.normal=>∃ s S β,good s/\Sim w0 S0 K0 N (zB (inv s).tmps) (inv s).objs a w S β| e=>∃ ps S β,Q e ps/\Sim w0 S0 K0 N (zB ps.tmps) ps.objs a w S β
theorem zQH {σ:Type}{inv:σ->PS}{good:σ->Prop}{Q:Exit->PS->Prop}:∀ e ps' a' w' S' β',zG5 inv good Q e ps'->Sim w0 S0 K0 N (zB ps'.tmps) ps'.objs a' w' S' β'->Meet w0 S0 K0 N inv good Q e a' w':=by
 intro e ps' a' w' S' β' hq hs;cases e with
 |normal =>
  obtain⟨s,hg,hw⟩:=hq;obtain⟨S2,β2,h2⟩:=hw.sound hs;exact⟨s,S2,β2,hg,h2⟩
 |exit i=>exact⟨ps',S',β',hq,hs⟩| goto l=>exact⟨ps',S',β',hq,hs⟩| ret=>exact⟨ps',S',β',hq,hs⟩| panic ch=>exact⟨ps',S',β',hq,hs⟩| outgrown=>exact⟨ps',S',β',hq,hs⟩
theorem meet {σ:Type}{inv:σ->PS}{good:σ->Prop}{Q:Exit->PS->Prop}{QM:Exit->Act->World->Prop}(hk:∀ e ps' a' w' S' β',Q e ps'->Sim w0 S0 K0 N (zB ps'.tmps) ps'.objs a' w' S' β'->QM e a' w') (hJ:∀ s,good s->Q .normal (inv s)):∀ e a w,Meet w0 S0 K0 N inv good Q e a w->QM e a w:=by
 intro e a w h;cases e with
 |normal=>obtain⟨s,S,β,hg,hs⟩:=h;grind
 |exit i=>obtain⟨ps,S,β,hq,hs⟩:=h;grind
 |goto l=>obtain⟨ps,S,β,hq,hs⟩:=h;grind
 |ret=>obtain⟨ps,S,β,hq,hs⟩:=h;grind
 |panic ch=>obtain⟨ps,S,β,hq,hs⟩:=h;grind
 |outgrown=>obtain⟨ps,S,β,hq,hs⟩:=h;grind
theorem zQQ:∀ (c:Code),jI N c=true->∀ {ps:PS} {Q:Exit->PS->Prop} {a:Act} {w:World} {S:Nat->Nat->Prop} {β:Bm} {QM:Exit->Act->World->Prop},Sim w0 S0 K0 N (zB ps.tmps) ps.objs a w S β->wp c ps Q->(∀ e ps' a' w' S' β',Q e ps'->Sim w0 S0 K0 N (zB ps'.tmps) ps'.objs a' w' S' β'->QM e a' w')->c.wp Pg QM a w:=by
 intro c;induction c with
 |skip=>intro _ ps Q a w S β QM h hs hk;exact wp_skip (hk _ _ _ _ _ _ hs h)| region id ops draw =>
  intro hc ps Q a w S β QM h hs hk;simp only[jI,tG] at hc;cases draw with
  |false =>
   simp only[wp] at hs;refine wp_region_list ?_;have hgo:qP ops.toList ops.toList ps (Q .normal)->_:=fun hs=>sT (Q:=QM) (K:=Q .normal) (fun ps' a' w' S' β' hq hsim=>hk _ _ _ _ _ _ hq hsim) ops.toList hc h hs;split at hs;{rcases hs.h with hs|⟨σ,inv,good,h1,h2⟩;{simp_all};{have:=sT (Q:=QM) (K:=fun ps'=>∃ s,good s/\Wk ps' (inv s)) (fun ps' a' w' S' β' hq hsim=>by obtain⟨s,g,k⟩:=hq;obtain⟨S2,β2,h3⟩:=k.sound hsim;grind) ops.toList hc h h1;omega}};simp_all
  |true =>
   simp only[wp] at hs;refine wp_region_any zEY ?_;have:=zL0 hs (Q:=QM) hc (fun ps' a' w' S' β' hq hsim=>hk _ _ _ _ _ _ hq hsim) h;simp_all
 |seq x y ihx ihy =>
  intro hc ps Q a w S β QM h hs hk;simp only[jI,yT] at hc;simp only[wp] at hs;refine Go.wp_seq (ihx hc.1 h hs ?_);intro e ps' a' w' S' β' hq hsim;cases e with
  |normal=>exact ihy hc.2 hsim hq hk| exit i=>exact hk _ _ _ _ _ _ hq hsim| goto l=>exact hk _ _ _ _ _ _ hq hsim| ret=>exact hk _ _ _ _ _ _ hq hsim| panic ch=>exact hk _ _ _ _ _ _ hq hsim| outgrown=>exact hk _ _ _ _ _ _ hq hsim
 |cond x y z ihy ihz =>
  intro hc ps Q a w S β QM h hs hk;simp only[jI,yT] at hc;have hr:=h.eval x;simp only[wp] at hs;split at hs;{grind [wp_cond_true,iF]};{grind [wp_cond_false,zBT]};{rename_i b hx;rw[hx] at hr;rcases hs.h with hs|⟨σ,inv,good,hA,hB,hJ⟩;{exact wp_cond_split (aS hr) (fun e=>ihy hc.1 h (hs.1 e) hk) (fun e=>ihz hc.2 h (hs.2 e) hk)};{exact wp_cond_split (aS hr) (fun e=>Code.wp_mono (meet hk hJ) (ihy hc.1 h (hA e) zQH)) (fun e=>Code.wp_mono (meet hk hJ) (ihz hc.2 h (hB e) zQH))}};{rename_i b hx;rw[hx] at hr;rcases hs.h with hs|⟨σ,inv,good,hA,hB,hJ⟩;{exact wp_cond_split (aC hr) (fun e=>ihy hc.1 h (hs.2 (by grind)) hk) (fun e=>ihz hc.2 h (hs.1 (by grind)) hk)};{exact wp_cond_split (aC hr) (fun e=>Code.wp_mono (meet hk hJ) (ihy hc.1 h (hB (by grind)) zQH)) (fun e=>Code.wp_mono (meet hk hJ) (ihz hc.2 h (hA (by grind)) zQH))}};grind
 |block id b ih =>
  intro hc ps Q a w S β QM h hs hk;simp only[jI] at hc;simp only[wp] at hs;refine Go.wp_block (ih hc h hs ?_);intro e ps' a' w' S' β' hq hsim;cases e with
  |exit i =>
   simp only[Exit.inBlock];cases hb:nqb i id with
   |true =>
    have:=yY hb;grind
   |false =>
    (have hne:i≠id:=fun e=>by simp_all);grind
  |normal=>exact hk _ _ _ _ _ _ hq hsim| goto l=>exact hk _ _ _ _ _ _ hq hsim| ret=>exact hk _ _ _ _ _ _ hq hsim| panic ch=>exact hk _ _ _ _ _ _ hq hsim| outgrown=>exact hk _ _ _ _ _ _ hq hsim
 |exit id=>intro _ ps Q a w S β QM h hs hk;exact wp_exit (hk _ _ _ _ _ _ hs h)| label l=>intro _ ps Q a w S β QM h hs hk;exact wp_label (hk _ _ _ _ _ _ hs h)| scope b ih =>
  intro hc ps Q a w S β QM h hs hk;simp only[jI] at hc;simp only[wp] at hs;refine Go.wp_scope_straight (ih hc h hs ?_);intro e ps' a' w' S' β' hq hsim;cases e with
  |goto l=>grind| normal=>exact hk _ _ _ _ _ _ hq hsim| exit i=>exact hk _ _ _ _ _ _ hq hsim| ret=>exact hk _ _ _ _ _ _ hq hsim| panic ch=>exact hk _ _ _ _ _ _ hq hsim| outgrown=>exact hk _ _ _ _ _ _ hq hsim
 |ret=>intro _ ps Q a w S β QM h hs hk;exact wp_ret (hk _ _ _ _ _ _ hs h)| loop b ih =>
  intro hc ps Q a w S β QM h hs hk;simp only[jI] at hc;simp only[wp] at hs;obtain⟨σ,inv,good,mu,s0,hg,hw,hround⟩:=hs.h;obtain⟨S1,β1,h1⟩:=hw.sound h;refine wp_loop_ghost (fun n a w=>∃ s S β,good s/\mu s=n/\Sim w0 S0 K0 N (zB (inv s).tmps) (inv s).objs a w S β) (mu s0) ⟨s0,S1,β1,hg,rfl,h1⟩ ?_;rintro n a' w' ⟨s,S2,β2,hgs,rfl,hsim⟩;refine ih hc hsim (hround s hgs) ?_;intro e ps' a2 w2 S3 β3 hq hsim2;cases e with
  |normal =>
   obtain⟨s',hg',hmu,hwk⟩:=hq;obtain⟨S4,β4,h4⟩:=hwk.sound hsim2;exact⟨mu s',hmu,s',S4,β4,hg',rfl,h4⟩
  |exit i=>exact hk _ _ _ _ _ _ hq hsim2| goto l=>exact hk _ _ _ _ _ _ hq hsim2| ret=>exact hk _ _ _ _ _ _ hq hsim2| panic ch=>exact hk _ _ _ _ _ _ hq hsim2| outgrown=>exact hk _ _ _ _ _ _ hq hsim2
 |_=>intro _ ps Q a w S β QM h hs hk;simp only[wp] at hs
theorem zPH {w:World}{S:Nat->Nat->Prop}{β:Bm}{t:Nat}{cs:List PV}{off:Nat}{pv:PV}(h:rdV (ty t) cs off=some pv){b o:Nat}(vals:Nat->Value) (hc:∀ j,j<cs.length->w.cell? ⟨b,o+j,none⟩=some (vals j)) (hr:∀ j,j<cs.length->Rep w S β (vals j) (cs.getD j .any)):∃ val,(loadVar t ⟨b,o+off,none⟩).run Pg w=.ok val w/\Rep w S β val pv:=by
 have hk:rdK (ty t) cs off (fun v=>v=pv):=by unfold rdV at h;unfold rdK;grind
 obtain⟨pv',val,h1,h2,h3⟩:=aD hk vals hc hr;grind [Instr.loadAt,Instr.sureAddr]
def zIX (tmps:Array Value):ResultVar->Sem Value
 |.tmp t=>pure (tmps.getD t undef)| .cell a t=>do loadVar t (<-asAddr (tmps.getD a undef))
theorem zLQ (fn:Func)(tmps:Array Value):results fn tmps=(do let vs <-fn.results.mapM (zIX tmps);pure (if h:vs.size=1 then vs[0] else .tuple vs)):=by unfold results;congr 2
theorem iE {ps:PS}{a:Act}{w:World}{S:Nat->Nat->Prop}{β:Bm}(h:Sim w0 S0 K0 N (zB ps.tmps) ps.objs a w S β):∀ (rs:List ResultVar) {l:List PV},dJ ps rs=some l ->∃ vs:List Value,(rs.mapM (zIX a.tmps):Sem (List Value)).run Pg w=.ok vs w/\RepL w S β vs.toArray l
 |[],l,he=>by simp only[dJ,p7] at he;subst he;exact⟨[],rfl,rfl,fun j hj=>by grind⟩| .tmp t::r,l,he=>by
  simp only[dJ] at he;split at he
  ·rename_i l' hl';simp only[p7] at he;subst he;obtain⟨vs,h1,h2⟩:=iE h r hl';refine⟨a.tmps.getD t undef::vs,by grind [Sem.run_bind,zIX,Sem.run_pure,Result.andThen_ok],by simpa using h2.1,fun j hj=>?_⟩;cases j with
   |zero=>simpa using h.tmp t| succ j=>simpa using h2.2 j (by grind)
  grind
 |.cell x t::r,l,he=>by
  simp only[dJ] at he;split at he
  ·rename_i n off hx;split at he
   ·rename_i cs ho;split at he
    ·rename_i v l' hv hl';simp only[p7] at he;subst he;obtain⟨vs,h1,h2⟩:=iE h r hl';have hr:=h.tmp x;rw[hx] at hr;obtain⟨b,hβ,hv'⟩:=kC hr;obtain⟨b',us,T,hβ',hb,hsz,hrr⟩:=zHW h ho;rw[hβ] at hβ';cases hβ';obtain⟨val,h3,h4⟩:=zPH (w:=w) (S:=S) (β:=β) (b:=b) (o:=0) hv (fun j=>us.getD j undef) (fun j hj=>by rw[kZ];grind [gJ]) hrr;rw[kZ] at h3;refine⟨val::vs,?_,by simpa using h2.1,fun j hj=>?_⟩;{grind [zIX,Sem.run_bind,asAddr,Sem.run_pure,Result.andThen_ok]}
     ·cases j with
      |zero=>simp_all| succ j=>simpa using h2.2 j (by grind)
    grind
   grind
  grind
theorem zEU {fn:Func}{ps:PS}{a:Act}{w:World}{S:Nat->Nat->Prop}{β:Bm}(h:Sim w0 S0 K0 N (zB ps.tmps) ps.objs a w S β){l:List PV}(hl:dJ ps fn.results.toList=some l):∃ v,(results fn a.tmps).run Pg w=.ok v w/\Rep w S β v (lD l):=by
 obtain⟨vs,h1,h2⟩:=iE h _ hl;refine⟨if h:vs.toArray.size=1 then vs.toArray[0] else .tuple vs.toArray,?_,?_⟩;{rw[zLQ,Array.mapM_eq_mapM_toList,Sem.run_bind,Sem.run_map,h1];rfl}
 ·by_cases h3:vs.toArray.size=1
  ·rw[dif_pos h3];have h4:l.length=1:=by rw[<-h2.1];exact h3
   match l,h4 with
   |[x],_ =>
    have:=h2.2 0 (by simp);simp only[lD];simp_all
  ·(rw[dif_neg h3];have h4:l.length≠1:=by rw[<-h2.1];exact h3);have:lD l=.tup l:=by
    match l with
    |[]=>rfl| [x]=>grind| x::y::r=>rfl
   rw[this];exact .tup h2.1 h2.2
theorem zCP {h:Nat->Nat}:∀ {l:List (Nat×Obj')},zFI h l->∀ {n o},(n,o)∈l->h n=n/\1000000<=n
 |(m,x)::r,H,n,o,hm=>by simp only[yI] at hm;rcases hm with hm|hm;{cases hm;exact H.1};{exact zCP H.2 hm}
theorem oD {h:Nat->Nat}:∀ {l:List Nat},(l.map h).Nodup->l.Nodup
 |[],_=>List.nodup_nil| x::r,hnd=>by simp only[kA,zC3] at hnd ⊢;exact⟨fun hx=>hnd.1 (y8.2 ⟨x,hx,rfl⟩),oD hnd.2⟩
def argT:Nat->List PV->List (Nat×PV)
 |_,[]=>[]| k,v::r=>(k,v)::argT (k+1) r
theorem zGE:∀ (l:List PV) (k t:Nat),zB (argT k l) t=if k<=t/\t<k+l.length then l.getD (t-k) .any else .any
 |[],k,t=>by simp[argT,zB]| v::r,k,t=>by simp only[argT,zB];by_cases h:k=t;{simp_all};{rw[nbeq h];simp only[];rw[zGE r (k+1) t];grind}
theorem zQZ {f : FuncId} {fn : Func} {c : Code} (hf : Pg.funcs[f]? = some fn) (hb : fn.body = some c) (hname : (fn.name == "runtime.NumGoroutine") = false) (hN : jI fn.ntmps c = true) {args : List PV} (hargs : nle args.length fn.ntmps = true) {kept eaten:List (Nat × Obj')} {r:PV} {kept' made:List (Nat × Obj')} (hnk:kept'.map Prod.fst=kept.map Prod.fst) (hwp:wp c ⟨argT 0 args,kept++eaten⟩ (dK fn.results.toList r kept' made)):Sound f args kept eaten r kept' made where
 isf vals w:=by
  (have hn : ¬ fn.name = "runtime.NumGoroutine" := by grind);simp[callFunc,hf,hn,hb]
 go w S β vals hbnd hobj hsz hrep:=by
  have hal:=mF hargs;refine calls_of_wp hf hb ?_;have hsim:Sim w S (Blk β (kept++eaten)) ⟨fn.ntmps,β⟩ (zB (argT 0 args)) (kept++eaten) { tmps:=vals++Array.replicate (fn.ntmps-vals.size) undef,defers:=[] } w S β:=by
   refine⟨rfl,by grind,⟨zZ _,rfl,rfl,rfl,fun _ _ _=>rfl,fun b vs T h=>⟨vs,h,rfl⟩,hbnd,fun _ _ _ h=>h,fun _ _ _ _ h=>h⟩,fun t=>?_,hobj,fun n o b hm hβ=>.inr ⟨n,o,hm,hβ⟩,fun _ _ _ _=>rfl⟩;rw[zGE];by_cases h:t<args.length
   ·(rw[if_pos oM];have h1:=hrep t h;have hlt:t<vals.size:=by omega);simpa[Array.getElem?_append_left hlt] using h1
   {rw[if_neg oM];exact xK _}
  refine zQQ c hN hsim hwp ?_;have fin:∀ ps' a' w' S' β',RetOk fn.results.toList r kept' made ps'->Sim w S (Blk β (kept++eaten)) ⟨fn.ntmps,β⟩ (zB ps'.tmps) ps'.objs a' w' S' β' ->
    a'.defers=[]/\∃ v,(results fn a'.tmps).run Pg w'=.ok v w'/\(∃ v' S' β',Ending.returned v=.returned v'/\Leads w S (Blk β (kept++eaten)) w' S'/\Rep w' S' β' v' r/\ObjsAt w' S' β' (kept'++made) /\
   (kept'.map Prod.fst=kept.map Prod.fst)/\(∀ n o,(n,o)∈kept->β' n=β n) /\
   (∀ n o b,(n,o)∈kept'++made->Own β' n o b->w.heap.size<=b\/Blk β (kept++eaten) b)):=by
   intro ps1 a' w' S1 β1 hr h1;obtain⟨ps',l,hn,hw,hl,hle,hlv,hobjs,hnd,hkid⟩:=hr.h;obtain⟨S2,β2,h2⟩:=hw.sound h1;obtain⟨v,h3,h4⟩:=zEU h2 hl;have hmem:∀ {n o},(n,o)∈kept'++made->(hn n,xY (ren hn) o)∈ps'.objs/\cR o=true:=fun hm=>mN hobjs hm;have hndn:=jN hnd;have fstH:∀ {n o},(n,o)∈kept'++made->∀ {m o'},(m,o')∈kept'++made->hn n=hn m->n=m:=fun hm _ _ hm' he=>nK hndn hm hm' he;refine⟨h2.dfr,v,h3,v,S2,β2.ren hn,rfl,h2.ld,zIY (h4.le _ hle) hlv,⟨?_,fun n o hm=>zOB (hmem hm).2 (h2.obj.at_ _ _ (hmem hm).1),fun n o b hm hβ=>?_,
    fun n o m o' b hm hm' hβ hβ'=>fstH hm hm' (h2.obj.inj _ _ _ _ b (hmem hm).1 (hmem hm').1 (sS.1 hβ) (sS.1 hβ'))⟩,hnk,fun n o hm=>?_,fun n o b hm hβ=>h2.own _ _ b (hmem hm).1 (sS.1 hβ)⟩
   {rw[dN] at hndn;exact oD hndn};{obtain⟨h5,h6⟩:=h2.obj.un _ _ b (hmem hm).1 (sS.1 hβ);grind [zF4]};{obtain⟨o',hm'⟩:=zDD hnk.symm hm;obtain⟨e1,e2⟩:=zCP hkid hm';have:=h2.keep n _ (by have:=(hmem (mY made hm')).1;rwa [e1] at this) e2;show β2 (hn n)=β n;grind}
  intro e ps' a' w' S' β' hq hs';cases e with
  |normal=>exact fin _ _ _ _ _ hq hs'| ret=>exact fin _ _ _ _ _ hq hs'| exit i=>exact hq.elim| goto l=>exact hq.elim| panic ch=>exact hq.elim| outgrown=>exact hq.elim
end
def zB2 (f:Func):Code:=f.body.getD .skip
theorem cH {f : FuncId} {fn : Func} (hf : Pg.funcs[f]? = some fn) (hb : fn.body.isSome = true) (hname : (fn.name == "runtime.NumGoroutine") = false) (hN : jI fn.ntmps (zB2 fn) = true) {args : List PV} (hargs : nle args.length fn.ntmps = true) {kept eaten:List (Nat × Obj')} {r:PV} {kept' made:List (Nat × Obj')} (hnk:kept'.map Prod.fst=kept.map Prod.fst) (hwp:wp (zB2 fn) ⟨argT 0 args,kept++eaten⟩ (dK fn.results.toList r kept' made)):Sound f args kept eaten r kept' made:=by
 obtain⟨c,hc⟩:=zQP.1 hb;have:zB2 fn=c:=by simp[zB2,hc]
 rw[this] at hN hwp;exact zQZ hf hc hname hN hargs hnk hwp
theorem yP {g as_ dst ps K f caps args' r}(h1:ev (zB ps.tmps) g=.fn f caps)(h2:gD les (evs (ev (zB ps.tmps)) as_++caps) args')(h3:zE f args' r)(h5:nmIn [] r=true)(h4:K (put ps dst r)):CallOk g as_ dst ps K :=
 ⟨ps,.refl ps,f,caps,h1,.inl ⟨args',r,nV h2,h3,h5,h4⟩⟩
theorem jZ {rs:List ResultVar}{r:PV}{ps:PS}{l:List PV}(h1:dJ ps rs=some l)(h2:les (lD l) (ren id r))(h3:lv r=true):RetOk rs r [] [] ps :=
 ⟨ps,l,id,.refl ps,h1,dO h2,h3,trivial,rfl,trivial⟩
theorem retC {rs:List ResultVar}{r:PV}{ps:PS}(h3:lv r=true)(h:match dJ ps rs with
  |some l=>les (lD l) (ren id r)| none=>False):RetOk rs r [] [] ps:=by
 cases h1:dJ ps rs with
 |none=>rw[h1] at h;exact h.elim| some l=>rw[h1] at h;exact jZ h1 h h3
theorem z3 {B:PS->(Exit->PS->Prop)->Prop}{ps:PS}{Q:Exit->PS->Prop}{σ:Type}(inv:σ->PS)(good:σ->Prop)(mu:σ->Nat)(s0:σ)(h0:good s0)(hw:Wk ps (inv s0)) (hr:∀ s,good s->B (inv s) (fun e ps'=>match e with
   |.normal=>∃ s',good s'/\mu s'<mu s/\Wk ps' (inv s')| e=>Q e ps')):LoopOk B ps Q:=⟨⟨σ,inv,good,mu,s0,h0,hw,hr⟩⟩
theorem zYS (v:PV):rn0 id v=v:=by cases v <;> rfl
theorem zDA {f:PV->PV}(h:∀ v,f v=v):∀ (l:List PV),vG f l=l
 |[]=>rfl| v::r=>by simp only[vG,h v,zDA h r]
theorem zYR (v:PV):rn1 id v=v:=by cases v <;> simp only[rn1,rn0,zDA zYS,id]
theorem zSW (v:PV):ren id v=v:=by cases v <;> simp only[ren,rn0,zDA zYR,id]
theorem zOF {f:PV->PV}(h:∀ v,f v=v):∀ (l:List (PV×(Unit->Nat))),j7 f l=l
 |[]=>rfl| (v,k)::r=>by simp only[j7,h v,zOF h r]
theorem zED (o:Obj'):xY (ren id) o=o:=by cases o <;> simp only[xY,zDA zSW,zOF zSW]
theorem retW {rs:List ResultVar}{r:PV}{ps ps':PS}{l:List PV}(hw:Wk ps ps')(h1:dJ ps' rs=some l)(h2:les (lD l) (ren id r))(h3:lv r=true):RetOk rs r [] [] ps :=
 ⟨ps',l,id,hw,h1,dO h2,h3,trivial,rfl,trivial⟩
theorem kQ {g as_ dst ps ps' K f caps args' r}(hw:Wk ps ps')(h1:ev (zB ps'.tmps) g=.fn f caps)(h2:gD les (evs (ev (zB ps'.tmps)) as_++caps) args')(h3:zE f args' r)(h5:nmIn [] r=true)(h4:K (put ps' dst r)):CallOk g as_ dst ps K :=
 ⟨ps',hw,f,caps,h1,.inl ⟨args',r,nV h2,h3,h5,h4⟩⟩
theorem zB3 {n:Nat}{els:List (List PV)}{d:Nat}{ps:PS}{K:PS->Prop}(h:K (put ps (some d) (slOf els))):BldK n els d ps K:=⟨.inl h⟩
theorem zWE {n:Nat}{els:List (List PV)}{d:Nat}{ps:PS}{K:PS->Prop}(hf:yH d ps=true)(h:K ⟨v7 ps.tmps d (.osl d n (fun _=>0) (fun _=>(zS els).length)),ps.objs++[(d,.arr n (fun _=>zS els))]⟩):BldK n els d ps K:=⟨.inr ⟨hf,h⟩⟩
theorem zKX {t base x d ps K n b z xs}(ht:ty t=.sli n b z){m o len els}(hb:ev (zB ps.tmps) base=.osl m n o len)(ho:yG ps.objs m=some (.arr n els))(ho0:o ()=0)(hl:len ()=(els ()).length){m' o' len'}(hx:ev (zB ps.tmps) x=.osl m' n o' len')(hm:yG ps.objs m'=some (.arr n xs))(h0:o' ()=0)(hl':len' ()=(xs ()).length)(hw:Wid n xs) (hr:Room (fun _=>(((els ()).length+(xs ()).length:Nat):Int)) b) (hf:yH d ⟨wV (scr m) ps.tmps,y4 (scr m) (xO ps.objs m)⟩=true) (hK:K ⟨v7 (wV (scr m) ps.tmps) d (.osl d n (fun _=>0) (fun _=>(els ()).length+(xs ()).length)),y4 (scr m) (xO ps.objs m)++[(d,.arr n (fun _=>els ()++xs ()))]⟩):AppK t base x (some d) ps K :=
 ⟨.inl ⟨ps,d,d,n,b,z,xs,.refl ps,rfl,ht,.inr ⟨false,m',o',len',hx,hm,h0,hl'⟩,hw,.inr ⟨false,m,o,len,els,hb,ho,ho0,hl,hr,hf,hK⟩⟩⟩
theorem wE {t base x d ps K n b z xs}(ht:ty t=.sli n b z){m o len els}(hb:ev (zB ps.tmps) base=.osl m n o len)(ho:yG ps.objs m=some (.arr n els))(ho0:o ()=0)(hl:len ()=(els ()).length)(hx:ev (zB ps.tmps) x=.sl xs)(hw:Wid n xs) (hr:Room (fun _=>(((els ()).length+(xs ()).length:Nat):Int)) b) (hf:yH d ⟨wV (scr m) ps.tmps,y4 (scr m) (xO ps.objs m)⟩=true) (hK:K ⟨v7 (wV (scr m) ps.tmps) d (.osl d n (fun _=>0) (fun _=>(els ()).length+(xs ()).length)),y4 (scr m) (xO ps.objs m)++[(d,.arr n (fun _=>els ()++xs ()))]⟩):AppK t base x (some d) ps K :=
 ⟨.inl ⟨ps,d,d,n,b,z,xs,.refl ps,rfl,ht,.inl (.inl hx),hw,.inr ⟨false,m,o,len,els,hb,ho,ho0,hl,hr,hf,hK⟩⟩⟩
theorem zIA {t base x d ps K n b z xs}(ht:ty t=.sli n b z){m o len els}(hb:ev (zB ps.tmps) base=.osl m n o len)(ho:yG ps.objs m=some (.log n els))(ho0:o ()=0)(hl:len ()=(els ()).length)(hx:ev (zB ps.tmps) x=.sl xs)(hw:Wid n xs) (hr:Room (fun _=>(((els ()).length+(xs ()).length:Nat):Int)) b) (hf:yH d ⟨wV (scr m) ps.tmps,y4 (scr m) (xO ps.objs m)⟩=true) (hK:K ⟨v7 (wV (scr m) ps.tmps) d (.osl d n (fun _=>0) (fun _=>(els ()).length+(xs ()).length)),y4 (scr m) (xO ps.objs m)++[(d,.log n (fun _=>els ()++xs ()))]⟩):AppK t base x (some d) ps K :=
 ⟨.inl ⟨ps,d,d,n,b,z,xs,.refl ps,rfl,ht,.inl (.inl hx),hw,.inr ⟨true,m,o,len,els,hb,ho,ho0,hl,hr,hf,hK⟩⟩⟩
theorem mT {t base x d ps K n b z xs}(ht:ty t=.sli n b z){m o len els}(hb:ev (zB ps.tmps) base=.osl m n o len)(ho:yG ps.objs m=some (.arr n els))(ho0:o ()=0)(hl:len ()=(els ()).length)(hx:ev (zB ps.tmps) x=.sl xs)(hw:Wid n xs) (hr:Room (fun _=>(((els ()).length+(xs ()).length:Nat):Int)) b) (hf:yH m ⟨wV (scr m) ps.tmps,y4 (scr m) (xO ps.objs m)⟩=true) (hK:K ⟨v7 (wV (scr m) ps.tmps) d (.osl m n (fun _=>0) (fun _=>(els ()).length+(xs ()).length)),y4 (scr m) (xO ps.objs m)++[(m,.arr n (fun _=>els ()++xs ()))]⟩):AppK t base x (some d) ps K :=
 ⟨.inl ⟨ps,d,m,n,b,z,xs,.refl ps,rfl,ht,.inl (.inl hx),hw,.inr ⟨false,m,o,len,els,hb,ho,ho0,hl,hr,hf,hK⟩⟩⟩
theorem mV {t base x d ps K n b z xs}(ht:ty t=.sli n b z){m o len els}(hb:ev (zB ps.tmps) base=.osl m n o len)(ho:yG ps.objs m=some (.log n els))(ho0:o ()=0)(hl:len ()=(els ()).length)(hx:ev (zB ps.tmps) x=.sl xs)(hw:Wid n xs) (hr:Room (fun _=>(((els ()).length+(xs ()).length:Nat):Int)) b) (hf:yH m ⟨wV (scr m) ps.tmps,y4 (scr m) (xO ps.objs m)⟩=true) (hK:K ⟨v7 (wV (scr m) ps.tmps) d (.osl m n (fun _=>0) (fun _=>(els ()).length+(xs ()).length)),y4 (scr m) (xO ps.objs m)++[(m,.log n (fun _=>els ()++xs ()))]⟩):AppK t base x (some d) ps K :=
 ⟨.inl ⟨ps,d,m,n,b,z,xs,.refl ps,rfl,ht,.inl (.inl hx),hw,.inr ⟨true,m,o,len,els,hb,ho,ho0,hl,hr,hf,hK⟩⟩⟩
theorem zQI {objs:List (Nat×Obj')}{v:PV}{K:PV->Prop}(h:K v):LdK objs v K:=⟨.inl h⟩
theorem s8 {objs:List (Nat×Obj')}{v:PV}{K:PV->Prop}(n:Nat){s:Nat}{els:Unit->List (List D)}(h1:yG objs n=some (.lent s els))(h2:fo n (.lent s els) v)(h3:K (frz n (.lent s els) v)):LdK objs v K:=⟨.inr ⟨n,s,els,h1,h2,h3⟩⟩
theorem zM3 {ops:List Oper}{ps:PS}{K:PS->Prop}(h:qP ops ops ps K):RegK ops ps K:=⟨.inl h⟩
theorem zJX {ops:List Oper}{ps:PS}{K:PS->Prop}{σ:Type}(inv:σ->PS)(good:σ->Prop)(h1:qP ops ops ps (fun ps'=>∃ s,good s/\Wk ps' (inv s)))(h2:∀ s,good s->K (inv s)):RegK ops ps K:=⟨.inr ⟨σ,inv,good,h1,h2⟩⟩
theorem z8 {i len:Nat}{els:List (List D)}(h:i+len<=els.length):FrOk (fun _=>i) (fun _=>len) (fun _=>els):=⟨h⟩
theorem zN {ops:List Oper}{ps:PS}{K:PS->Prop}(k:Nat)(hd:fW ops k=true)(h:pI true ops (ops.take k) ps (fun ps''=>qP ops (ops.drop k) ps'' K)):DrawK ops ps K:=.of k ps (.refl ps) hd h
theorem jS {ops:List Oper}{ps:PS}{K:PS->Prop}(k:Nat)(hd:fW ops k=true)(hm:(ndO (yO (ops.take k))&&mkIn ps (yO (ops.take k)))=true) (h:dZ ops (ops.take k) ps (fun ps''=>zE2 ps''.tmps (yO (ops.take k))=true/\qP ops (ops.drop k) ⟨ps''.tmps,ps''.objs++yO (ops.take k)⟩ K)):DrawK ops ps K:=.mk k ps (.refl ps) hd hm h
theorem zV7 {ops:List Oper}{ps:PS}{K:PS->Prop}(k i0:Nat)(hd:fW ops k=true)(hm:zTZ ops k i0 []=true)(h:zTY ops k i0 0 [] ps K):DrawK ops ps K:=.st k i0 0 [] ps (.refl ps) hd hm h
theorem vC {ops:List Oper}{ps:PS}{K:PS->Prop}(k:Nat)(es:List (Nat×Nat))(hd:fW ops k=true)(he:efOk ops k es=true)(hm:(ndO (yO (ops.take k))&&mkIn ps (yO (ops.take k)))=true) (h:efWp ops es (yO (ops.take k)) (j9 (kL es) ps.objs) (ops.take k) 0 ps.tmps ps.objs (fun T O=>zE2 T (yO (ops.take k))=true/\qP ops (ops.drop k) ⟨T,O⟩ K)):DrawK ops ps K:=.ef k es ps (.refl ps) hd he hm h
theorem zV8 {ops:List Oper}{ps:PS}{K:PS->Prop}(k:Nat)(es:List (Nat×Nat))(hd:fW ops k=true)(he:apOk k es=true) (h:apWp ops es (anc ops) (j9 (kL es) ps.objs) (ops.take k) 0 ps.tmps ps.objs (fun T O=>qP ops (ops.drop k) ⟨sA (kL es) T,y4 (scC (kL es)) O⟩ K)):DrawK ops ps K:=.ap k es ps (.refl ps) hd he h
theorem pU {ops:List Oper}{ps ps':PS}{K:PS->Prop}{σ:Type}(inv:σ->PS)(good:σ->Prop)(hw:Wk ps ps')(hsel:Region.noSelect ops.toArray=true)(h:zG8 ops ops.length (List.replicate ops.length false) ps' (fun q=>∃ s,good s/\Wk q (inv s)))(h2:∀ s,good s->K (inv s)):DrawK ops ps K:=.br σ inv good ps' hw hsel h h2
theorem zOV {t:TypeId}{x:Operand}{T:List (Nat×PV)}{n s b:Nat}{z:List PV}{xs els:Unit->List (List D)}{o' len:Unit->Nat}{K:PV->Obj'->Prop}(h1:ty t=.sli s b z)(h2:ev (zB T) x=.sl xs)(h3:Wid s xs)(h4:o' ()=0)(h5:len ()=(els ()).length) (h6:Room (fun _=>(((els ()).length+(xs ()).length:Nat):Int)) b) (hK:K (.osl n s (fun _=>0) (fun _=>(els ()).length+(xs ()).length)) (.arr s (fun _=>els ()++xs ()))):EffA t x (.osl n s o' len) T (some (.arr s els)) n K :=
 ⟨s,b,z,xs,false,els,h1,.inl h2,h3,rfl,.inl ⟨o',len,rfl,h4,h5,h6,hK⟩⟩
theorem zFJ {g:Operand}{as_:List Operand}{T:List (Nat×PV)}{n:Nat}{K:PV->Obj'->Prop}{f:FuncId}{caps cargs:List PV}{m:Nat}{x x':Obj'}{r:PV}(hn:Nat->Nat) (h1:ev (zB T) g=.fn f caps) (h2:gD les (evs (ev (zB T)) as_++caps) (renL hn cargs)) (h3:Sound f cargs [(m,x)] [] r [(m,x')] []) (h4:hn m=n) (h6:pY x=true) (h7:pY x'=true) (h9:yR lv cargs=true) (h10:lv r=true) (h11:nmIn [m] r=true) (h12:K (ren hn r) x'):Eff1 g as_ T (some x) n K:=⟨f,caps,hn,cargs,m,x,r,x',h1,nV h2,h3,h4,rfl,h6,h7,h9,h10,h11,h12⟩
theorem gP (z:Int):nx .u32 z=z%4294967296:=by unfold nx;simp[IntKind.wrap,IntKind.signed,IntKind.bits]
theorem uM (z:Int):nx .u64 z=z%18446744073709551616:=by unfold nx;simp[IntKind.wrap,IntKind.signed,IntKind.bits]
theorem zF (n:Nat):@NatCast.natCast Int instNatCastInt n=((n:Nat):Int):=rfl
theorem zQ {p:Prop}[Decidable p]{A B:Unit->Prop}(h1:p->A ())(h2:¬p->B ()):Br (fun _=>decide p) A B:=⟨fun h=>h1 (of_decide_eq_true h),fun h=>h2 (of_decide_eq_false h)⟩
theorem z7 {b:Bool}{A B:Unit->Prop}(h1:b=true->A ())(h2:b=false->B ()):Br (fun _=>b) A B:=⟨h1,h2⟩
theorem zG {p:Prop}[Decidable p]{A B:(Exit->PS->Prop)->Prop}{Q:Exit->PS->Prop}(h1:p->A Q)(h2:¬p->B Q):Cut (fun _=>decide p) A B Q:=⟨.inl ⟨fun h=>h1 (of_decide_eq_true h),fun h=>h2 (of_decide_eq_false h)⟩⟩
theorem zP {b:Bool}{A B:(Exit->PS->Prop)->Prop}{Q:Exit->PS->Prop}(h1:b=true->A Q)(h2:b=false->B Q):Cut (fun _=>b) A B Q:=⟨.inl ⟨h1,h2⟩⟩
theorem fX {p:Prop}[Decidable p]{A B:(Exit->PS->Prop)->Prop}{Q:Exit->PS->Prop}{σ:Type}(inv:σ->PS)(good:σ->Prop) (h1:p->A (zG5 inv good Q)) (h2:¬p->B (zG5 inv good Q)) (h3:∀ s,good s->Q .normal (inv s)):Cut (fun _=>decide p) A B Q :=
 ⟨.inr ⟨σ,inv,good,fun h=>h1 (of_decide_eq_true h),fun h=>h2 (of_decide_eq_false h),h3⟩⟩
theorem nZ {b:Bool}{A B:(Exit->PS->Prop)->Prop}{Q:Exit->PS->Prop}{σ:Type}(inv:σ->PS)(good:σ->Prop) (h1:b=true->A (zG5 inv good Q)) (h2:b=false->B (zG5 inv good Q)) (h3:∀ s,good s->Q .normal (inv s)):Cut (fun _=>b) A B Q :=
 ⟨.inr ⟨σ,inv,good,h1,h2,h3⟩⟩
theorem zD {z:Int}(h1:-9223372036854775808<=z)(h2:z<=9223372036854775807):InI64 (fun _=>z):=⟨h1,h2⟩
theorem uF {z:Int}(h:0<=z):Nn (fun _=>z):=⟨h⟩
theorem uA {z:Int}(h:z≠0):Nz (fun _=>z):=⟨h⟩
theorem y9 {k:Int}{n:Nat}(h1:0<=k)(h2:k<(n:Int)):Rng (fun _=>k) (fun _=>n):=⟨h1,h2⟩
theorem u9 {l h:Int}{n:Nat}(h1:0<=l)(h2:l<=h)(h3:h<=(n:Int)):SlOk (fun _=>l) (fun _=>h) (fun _=>n):=⟨h1,h2,h3⟩
theorem zVA {l h:Int}(h1:l<h):SlNe (fun _=>l) (fun _=>h):=⟨h1⟩
theorem yD {n:Int}{b:Nat}(h1:0<=n)(h2:n*(b:Int)<=70368744177664):Room (fun _=>n) b:=⟨h1,h2⟩
theorem jO {x y:Int}(h1:0<=x)(h2:x<=y):MkOk (fun _=>x) (fun _=>y):=⟨h1,h2⟩
theorem zTB {n:Nat}{els:List (List D)}{k:Int}{K:List PV->Prop}(j:Nat)(hk:k=(j:Int))(c:List PV)(hf:yR qW c=true)(hn:c.length=n)(he:els[j]?=some (wB c))(hK:K c):IdxOk n (fun _=>els) (fun _=>k) K :=
 ⟨⟨by simp only[hk];omega,c,hf,hn,by simp only[hk,mW];exact he,hK⟩⟩
theorem zW8 {n:Nat}{els:List (List D)}{i:Nat}{K:List PV->Prop}(j:Nat)(hk:i=j)(c:List PV)(hf:yR qW c=true)(hn:c.length=n)(he:els[j]?=some (wB c))(hK:K c):ElOk n (fun _=>els) (fun _=>i) K :=
 ⟨⟨c,hf,hn,by simp only[hk];exact he,hK⟩⟩
theorem mL (a:PV):LeS a a:=⟨Le.refl a⟩
theorem zC {k:IntKind}{a b:Int}(h:a=b):LeS (.int k (fun _=>a)) (.int k (fun _=>b)):=⟨by simp[Le,h]⟩
theorem zR {a b:List (List D)}(h:a=b):LeS (.sl (fun _=>a)) (.sl (fun _=>b)):=⟨by simp[Le,h]⟩
theorem yW {b:List (List D)}(h:b=[]):LeS .nil (.sl (fun _=>b)):=⟨by simp[Le,h]⟩
theorem yC {n m o o' l l':Nat}(h:o=o')(h2:l=l'):LeS (.osl n m (fun _=>o) (fun _=>l)) (.osl n m (fun _=>o') (fun _=>l')):=⟨by simp[Le,h,h2]⟩
theorem zI {a b:List (List D)}(h:a=b):ElsEq (fun _=>a) (fun _=>b):=⟨h⟩
theorem zV {a b:Bool}(h:a=b):LeS (.bool (fun _=>a)) (.bool (fun _=>b)):=⟨by simp[Le,h]⟩
theorem vY {a b:Bool}(h:b=!a):LeS (.nbool (fun _=>a)) (.bool (fun _=>b)):=⟨by simp[Le,h]⟩
theorem yN {b:Bool}(h:b=true):LeS .tt (.bool (fun _=>b)):=⟨by simp[Le,h]⟩
theorem zM {b:Bool}(h:b=false):LeS .ff (.bool (fun _=>b)):=⟨by simp[Le,h]⟩
def lm (l:List UInt32):List (List D):=l.map fun x=>[.int .u32 x.toNat]
abbrev nat (l:List UInt32):PV:=.sl (fun _=>lm l)
theorem zH (l:List UInt32):(lm l).length=l.length:=by simp[lm]
theorem iJ (l:List UInt32):Wid 1 (fun _=>lm l):=⟨fun e he=>by simp only[lm,y8] at he;obtain⟨x,_,rfl⟩:=he;rfl⟩
theorem zS6 {l:List UInt32}{j:Nat}(hj:j<l.length):(lm l)[j]?=some [.int .u32 ((l.getD j 0).toNat:Int)]:=by simp[lm,hj]
theorem xG {l:List UInt32}{k:Int}{K:List PV->Prop}(j:Nat)(hk:k=(j:Int))(hj:j<l.length)(hK:K [.int .u32 (fun _=>((l.getD j 0).toNat:Int))]):IdxOk 1 (fun _=>lm l) (fun _=>k) K :=
 zTB j hk [.int .u32 (fun _=>((l.getD j 0).toNat:Int))] rfl rfl (zS6 hj) hK
theorem j8 {l:List UInt32}{i:Nat}{K:List PV->Prop}(j:Nat)(hk:i=j)(hj:j<l.length)(hK:K [.int .u32 (fun _=>((l.getD j 0).toNat:Int))]):ElOk 1 (fun _=>lm l) (fun _=>i) K :=
 zW8 j hk [.int .u32 (fun _=>((l.getD j 0).toNat:Int))] rfl rfl (zS6 hj) hK
theorem zOI (l:List UInt32)(n:Nat):(lm l).take n=lm (l.take n):=by simp[lm,zHD]
theorem zVW (l:List UInt32)(n:Nat):(lm l).drop n=lm (l.drop n):=by simp[lm,zQK]
theorem zPL (l m:List UInt32):lm l++lm m=lm (l++m):=by simp[lm]
theorem om {p:Prop}(h:p:=by (try dsimp only [zF] at *) <;> (try simp only[zH] at *) <;> omega):p:=h
theorem okA {p:Prop}(h:p:=by repeat' first|exact trivial|exact mL _|exact yN rfl|exact zM rfl|exact yW rfl|apply And.intro):p:=h
theorem okZ {p:Prop}(h:p:=by cbv;repeat' first|exact trivial|exact mL _|exact zI rfl|exact zC om|exact yW rfl|exact zM (by assumption)|exact yN (by assumption)|exact zV (by assumption)|apply And.intro):p:=h
theorem lR {a:PV}:LeS a a:=mL a
theorem wkY {ps ps':PS}(h:leT ps.tmps ps'.tmps/\leO ps.objs ps'.objs)(hn:ndO ps'.objs=true:=by rfl):Wk ps ps':=.le h.1 h.2 hn
theorem wkZ {ps ps':PS}(h:leT ps.tmps ps'.tmps/\leO ps.objs ps'.objs:=by cbv;repeat' first|exact trivial|exact mL _|exact zI rfl|exact zC om|exact yW rfl|exact zM (by assumption)|exact yN (by assumption)|exact zV (by assumption)|apply And.intro)(hn:ndO ps'.objs=true:=by rfl):Wk ps ps':=.le h.1 h.2 hn
theorem cA {g as_ dst ps K f caps args' r}(h3:zE f args' r)(h4:K (put ps dst r))(h1:ev (zB ps.tmps) g=.fn f caps:=by exact rfl)(h2:gD les (evs (ev (zB ps.tmps)) as_++caps) args':=by exact okA)(h5:nmIn [] r=true:=by exact rfl):CallOk g as_ dst ps K:=yP h1 h2 h3 h5 h4
theorem sF {f : FuncId} (fn : Func) {args : List PV} {kept eaten : List (Nat × Obj')} {r : PV} {kept' made : List (Nat × Obj')} (hwp : wp (zB2 fn) ⟨argT 0 args, kept ++ eaten⟩ (dK fn.results.toList r kept' made)) (hf : Pg.funcs[f]? = some fn := by rw [uV]; rfl) (hb : fn.body.isSome = true := by exact rfl) (hname : (fn.name == "runtime.NumGoroutine") = false := by exact rfl) (hN : jI fn.ntmps (zB2 fn) = true := by exact rfl) (hargs : nle args.length fn.ntmps = true := by exact rfl) (hnk : kept'.map Prod.fst = kept.map Prod.fst := by exact rfl) : Sound f args kept eaten r kept' made := cH hf hb hname hN hargs hnk hwp
theorem rC {rs:List ResultVar}{r:PV}{ps:PS}(h:match dJ ps rs with
 |some l=>les (lD l) (ren id r)| none=>False) (h3:lv r=true:=by exact rfl):RetOk rs r [] [] ps:=retC h3 h
abbrev hnM0:Nat->Nat:=fun n=>match nqb n 1000000 with|true=>12|false=>16
abbrev hnM1:Nat->Nat:=fun n=>match nqb n 1000000 with|true=>11|false=>101
abbrev hnM2:Nat->Nat:=fun n=>match nqb n 1000000 with|true=>12|false=>102
end Go.Proofs.YtaeaffgjdcigoaaGreat
namespace Go.Proofs.YtaeaffgjdcigoaaGreat
def B:Nat:=4294967296
theorem w5:0<B:=by decide
theorem yL (x:UInt32):x.toNat<B:=x.toNat_lt
def val:List UInt32->Nat
 |[]=>0| x::r=>x.toNat+B*val r
def zK (n:Nat):List UInt32 :=
 if h:n=0 then [] else UInt32.ofNat (n%B)::zK (n/B)
termination_by n
decreasing_by exact Nat.div_lt_self (by omega) (by decide)
theorem yZ:zK 0=[]:=by rw[zK];simp
theorem aG {n:Nat}(h:n≠0):zK n=UInt32.ofNat (n%B)::zK (n/B):=by grind [zK]
theorem aE (n:Nat):(UInt32.ofNat (n%B)).toNat=n%B:=by rw[UInt32.toNat_ofNat'];exact Nat.mod_eq_of_lt (Nat.mod_lt _ w5)
theorem zO (n:Nat):val (zK n)=n:=by
 induction n using Nat.strongRecOn with
 |_ n ih =>
  by_cases h:n=0;{subst h;rw[yZ];rfl};{rw[aG h,val,aE,ih (n/B) (Nat.div_lt_self (by omega) (by decide))];exact Nat.mod_add_div n B}
theorem vM:∀ (a b:List UInt32),val (a++b)=val a+B^a.length*val b
 |[],b=>by simp[val]| x::a,b=>by simp only[List.cons_append,val,List.length_cons,vM a b];grind
theorem xZ:∀ (l:List UInt32),val l<B^l.length
 |[]=>by simp[val]| x::r=>by have h1:=xZ r;have h2:=yL x;have h3:B*(val r+1)<=B*B^r.length:=Nat.mul_le_mul_left _ h1;simp only[val,List.length_cons,Nat.pow_succ];rw[Nat.mul_comm (B^r.length) B];rw[Nat.mul_add] at h3;omega
def bA:List UInt32->Bool
 |[]=>true| [x]=>x != 0| _::y::r=>bA (y::r)
theorem zCT (x:UInt32){r:List UInt32}(h:r≠[]):bA (x::r)=bA r:=by
 cases r with
 |nil=>grind| cons y r=>rfl
theorem zHH:∀ {l:List UInt32},bA l=true->l≠[]->0<val l
 |[],_,h=>absurd rfl h| [x],h,_=>by
  (have h1:x≠0:=by grind [bA]);have:x.toNat≠0:=fun e=>h1 (UInt32.toNat_inj.1 e)
  grind [val]
 |x::y::r,h,_=>by have h1:=zHH (l:=y::r) h (by simp);grind [B,val]
theorem nS:∀ {l:List UInt32},bA l=true->zK (val l)=l
 |[],_=>by simp[val,yZ]| x::r,h=>by
  have hp:=zHH h (by simp);rw[aG (by omega)];have hx:=yL x;have h1:val (x::r)%B=x.toNat:=by simp only[val];rw[Nat.add_mul_mod_self_left,Nat.mod_eq_of_lt hx]
  (have h2:val (x::r)/B=val r:=by grind [val,Nat.add_mul_div_left,Nat.div_eq_of_lt]);rw[h1,h2]
  have hr:bA r=true:=by
   cases r with
   |nil=>rfl| cons y r=>exact h
  rw[nS hr];simp_all
theorem sY (n:Nat):bA (zK n)=true:=by
 induction n using Nat.strongRecOn with
 |_ n ih =>
  by_cases h:n=0;{subst h;rw[yZ];rfl}
  ·rw[aG h];by_cases h2:n/B=0
   ·(rw[h2,yZ];have hlt:n<B:=(Nat.div_eq_zero_iff_lt w5).1 h2;have:(UInt32.ofNat (n%B)).toNat≠0:=by grind [aE,Nat.mod_eq_of_lt]);simp only[bA,bne_iff_ne,ne_eq]
    exact fun e=>this (by simp_all)
   {rw[zCT _ (by grind [aG])];exact ih _ (Nat.div_lt_self (by omega) (by decide))}
theorem iT (l:List UInt32)(x:UInt32):bA (l++[x])=(x != 0):=by
 induction l with
 |nil=>rfl| cons y l ih=>rw[List.cons_append,zCT _ (by simp),ih]
theorem zFQ (l:List UInt32):val (l++[0])=val l:=by rw[vM];simp[val]
theorem zC4:∀ {a b:List UInt32},a.length=b.length->val a=val b->a=b
 |[],[],_,_=>rfl| x::a,y::b,hl,hv=>by
  (simp only[val] at hv;have hx:=yL x;have hy:=yL y;have h1:x.toNat=y.toNat:=by have:=congrArg (· % B) hv;grind [Nat.add_mul_mod_self_left,Nat.mod_eq_of_lt]);have h2:val a=val b:=by rw[h1] at hv;exact Nat.eq_of_mul_eq_mul_left w5 (Nat.add_left_cancel hv)
  rw[UInt32.toNat_inj.1 h1,zC4 (by grind) h2]
 |[],y::b,hl,_=>by grind| x::a,[],hl,_=>by grind
theorem yF {n k:Nat}(h:n<B^k):(zK n).length<=k:=by
 induction k generalizing n with
 |zero =>
  grind [yZ]
 |succ k ih =>
  by_cases h0:n=0;{grind}
  ·(rw[aG h0,List.length_cons];have:n/B<B^k:=by rw[Nat.div_lt_iff_lt_mul w5];grind);grind
theorem zX (l:List UInt32):(zK (val l)).length<=l.length:=yF (xZ l)
theorem zBH {n k:Nat}(h:B^k<=n):k<(zK n).length:=by rcases Nat.lt_or_ge k (zK n).length with h'|h';{exact h'};{have h1:=xZ (zK n);rw[zO] at h1;have:B^(zK n).length<=B^k:=Nat.pow_le_pow_right w5 h';omega}
theorem x8 {n:Nat}:zK n=[]↔n=0:=by constructor;{intro h;have:=zO n;rw[h] at this;exact this.symm};{intro h;subst h;exact yZ}
theorem aB (l:List UInt32){n:Nat}(h:n<l.length):l.take (n+1)=l.take n++[l.getD n 0]:=by simp_all
theorem nA (l:List UInt32){m:Nat}(h:m<l.length):val l=val (l.take m)+B^m*((l.getD m 0).toNat+B*val (l.drop (m+1))):=by
 have e:l=l.take m++(l.getD m 0::l.drop (m+1)):=by simp_all
 have hl:(l.take m).length=m:=by grind
 calc val l=val (l.take m++(l.getD m 0::l.drop (m+1))):=by grind
  _=_:=by rw[vM,hl];rfl
theorem wY (l:List UInt32)(m:Nat):val (l.take m)<B^m:=by
 have h1:=xZ (l.take m);have h2:(l.take m).length<=m:=by grind
 exact Nat.lt_of_lt_of_le h1 (Nat.pow_le_pow_right w5 h2)
theorem zTN {a b:List UInt32}{m:Nat}(ha:m<a.length)(hb:m<b.length)(hd:a.drop (m+1)=b.drop (m+1))(h:(a.getD m 0).toNat<(b.getD m 0).toNat):val a<val b:=by
 rw[nA a ha,nA b hb,hd];have h1:=wY a m;have h2:(a.getD m 0).toNat+1+B*val (b.drop (m+1))<=(b.getD m 0).toNat+B*val (b.drop (m+1)):=by omega
 have h3:=Nat.mul_le_mul_left (B^m) h2;grind
theorem o9 {n m:Nat}(h:(zK n).length<(zK m).length):n<m:=by have h1:=xZ (zK n);rw[zO] at h1;rcases Nat.lt_or_ge n m with h'|h';{exact h'};{have h2:=yF (Nat.lt_of_le_of_lt h' h1);omega}
def qJ (a b:Nat):Int:=if a<b then -1 else if b<a then 1 else 0
theorem zDH {a b:Nat}(h:a<b):qJ a b=-1:=by simp[qJ,h]
theorem zDI {a b:Nat}(h:b<a):qJ a b=1:=by simp[qJ,h,Nat.not_lt.2 (Nat.le_of_lt h)]
theorem zH8 (a:Nat):qJ a a=0:=by simp[qJ]
theorem zJI (l:List UInt32)(x:UInt32):val (l++[x])=val l+B^l.length*x.toNat:=by rw[vM];simp[val]
theorem lI (l:List UInt32){n:Nat}(h:n<l.length):val (l.take (n+1))=val (l.take n)+B^n*(l.getD n 0).toNat:=by grind [aB,zJI]
theorem zW (l:List UInt32)(n:Nat):val (l.take (n+1))=val (l.take n)+B^n*(l.getD n 0).toNat:=by rcases Nat.lt_or_ge n l.length with h|h;{exact lI l h};{rw[List.take_of_length_le (by omega),List.take_of_length_le h];simp_all}
theorem u7 (l:List UInt32){n:Nat}(h:n<l.length)(x:UInt32):val ((l.set n x).take (n+1))=val (l.take n)+B^n*x.toNat:=by rw[lI _ (by grind)];congr 2;{rw[List.take_set_of_le (Nat.le_refl _)]};grind
theorem xW (n:Nat):(UInt32.ofNat n).toNat=n%B:=by rw[UInt32.toNat_ofNat'];rfl
theorem sN (l:List UInt32){j:Nat}(h:j<l.length)(x:UInt32):val (l.set j x)+B^j*(l.getD j 0).toNat=val l+B^j*x.toNat:=by
 have hs:j<(l.set j x).length:=by grind
 rw[nA l h,nA (l.set j x) hs];have e1:(l.set j x).take j=l.take j:=List.take_set_of_le (Nat.le_refl _);have e2:(l.set j x).drop (j+1)=l.drop (j+1):=by rw[List.drop_set_of_lt (by omega)]
 grind
theorem gV (n:Nat):val (List.replicate n 0)=0:=by
 induction n with
 |zero=>rfl| succ n ih=>simp[List.replicate_succ,val,ih]
theorem pS (l:List UInt32)(j k:Nat)(x:UInt32)(h:j≠k):(l.set j x).getD k 0=l.getD k 0:=by grind
end Go.Proofs.YtaeaffgjdcigoaaGreat
