/- A part of the proof: PmQ, PmR. -/
import Derived.Test.YtboocdbmnfjomaaGreatV12
import Derived.Deep.LoopGhost
import Derived.Scope
set_option linter.all false
namespace Go.Proofs.YtboocdbmnfjomaaGreat
open Go
def jR (N:Nat):Code->Bool
 |.region _ ops _=>ops.toList.all (tV N)| .seq a b=>jR N a&&jR N b| .cond _ a b=>jR N a&&jR N b| .block _ b=>jR N b| .loop b=>jR N b| .scope b=>jR N b| _=>true
theorem Vf:Pg.follows .mixedOrders=true:=by rw[vI];rfl
section
variable {w0:World} {S0:Nat->Nat->Prop} {K0:Nat->Prop} {N:Cx}
def NC (w0:World) (S0:Nat->Nat->Prop) (K0:Nat->Prop) (N:Cx) {σ:Type} (inv:σ->PS) (good:σ->Prop) (Q:Exit->PS->Prop):Exit->Act->World->Prop:=λe a w=>match e with
 |.normal=>∃ s S β,good s/\Sim w0 S0 K0 N (zD (inv s).tmps) (inv s).objs a w S β| e=>∃ ps S β,Q e ps/\Sim w0 S0 K0 N (zD ps.tmps) ps.objs a w S β
theorem Gc {σ:Type}{inv:σ->PS}{good:σ->Prop}{Q:Exit->PS->Prop}:∀ e ps' a' w' S' β',XP inv good Q e ps'->Sim w0 S0 K0 N (zD ps'.tmps) ps'.objs a' w' S' β'->NC w0 S0 K0 N inv good Q e a' w':=by
 intro e ps' a' w' S' β' hq hs;cases e with
 |normal =>
  obtain⟨s,hg,hw⟩:=hq;obtain⟨S2,β2,h2⟩:=hw.sound hs;exact⟨s,S2,β2,hg,h2⟩
 |exit i=>exact⟨ps',S',β',hq,hs⟩| goto l=>exact⟨ps',S',β',hq,hs⟩| ret=>exact⟨ps',S',β',hq,hs⟩| panic ch=>exact⟨ps',S',β',hq,hs⟩| outgrown=>exact⟨ps',S',β',hq,hs⟩
theorem Ss {σ:Type}{inv:σ->PS}{good:σ->Prop}{Q:Exit->PS->Prop}{QM:Exit->Act->World->Prop}(hk:∀ e ps' a' w' S' β',Q e ps'->Sim w0 S0 K0 N (zD ps'.tmps) ps'.objs a' w' S' β'->QM e a' w') (hJ:∀ s,good s->Q .normal (inv s)):∀ e a w,NC w0 S0 K0 N inv good Q e a w->QM e a w:=by
 intro e a w h;cases e with
 |normal=>obtain⟨s,S,β,hg,hs⟩:=h;grind
 |exit i=>obtain⟨ps,S,β,hq,hs⟩:=h;grind
 |goto l=>obtain⟨ps,S,β,hq,hs⟩:=h;grind
 |ret=>obtain⟨ps,S,β,hq,hs⟩:=h;grind
 |panic ch=>obtain⟨ps,S,β,hq,hs⟩:=h;grind
 |outgrown=>obtain⟨ps,S,β,hq,hs⟩:=h;grind
theorem F6:∀ (c:Code),jR N c=true->∀ {ps:PS} {Q:Exit->PS->Prop} {a:Act} {w:World} {S:Nat->Nat->Prop} {β:Bm} {QM:Exit->Act->World->Prop},Sim w0 S0 K0 N (zD ps.tmps) ps.objs a w S β->wp c ps Q->(∀ e ps' a' w' S' β',Q e ps'->Sim w0 S0 K0 N (zD ps'.tmps) ps'.objs a' w' S' β'->QM e a' w')->c.wp Pg QM a w:=by
 intro c;induction c with
 |skip=>intro _ ps Q a w S β QM h hs hk;exact wp_skip (hk _ _ _ _ _ _ hs h)| region id ops draw =>
  intro hc ps Q a w S β QM h hs hk;simp only[jR,bX] at hc;cases draw with
  |false =>
   simp only[wp] at hs;refine wp_region_list ?_;have hgo:jB ops.toList ops.toList ps (Q .normal)->_:=λhs=>rG (Q:=QM) (K:=Q .normal) (λps' a' w' S' β' hq hsim=>hk _ _ _ _ _ _ hq hsim) ops.toList hc h hs;split at hs;{rcases hs.h with hs|⟨σ,inv,good,h1,h2⟩;{simp_all};{have:=rG (Q:=QM) (K:=λps'=>∃ s,good s/\Wk ps' (inv s)) (λps' a' w' S' β' hq hsim=>by obtain⟨s,g,k⟩:=hq;obtain⟨S2,β2,h3⟩:=k.sound hsim;grind) ops.toList hc h h1;omega}};simp_all
  |true =>
   simp only[wp] at hs;refine wp_region_any Vf ?_;have:=Hp hs (Q:=QM) hc (λps' a' w' S' β' hq hsim=>hk _ _ _ _ _ _ hq hsim) h;simp_all
 |seq x y ihx ihy =>
  intro hc ps Q a w S β QM h hs hk;simp only[jR,xA] at hc;simp only[wp] at hs;refine Go.wp_seq (ihx hc.1 h hs ?_);intro e ps' a' w' S' β' hq hsim;cases e with
  |normal=>exact ihy hc.2 hsim hq hk| exit i=>exact hk _ _ _ _ _ _ hq hsim| goto l=>exact hk _ _ _ _ _ _ hq hsim| ret=>exact hk _ _ _ _ _ _ hq hsim| panic ch=>exact hk _ _ _ _ _ _ hq hsim| outgrown=>exact hk _ _ _ _ _ _ hq hsim
 |cond x y z ihy ihz =>
  intro hc ps Q a w S β QM h hs hk;simp only[jR,xA] at hc;have hr:=h.eval x;simp only[wp] at hs;split at hs;{grind [wp_cond_true,Zv]};{grind [wp_cond_false,Zw]};{rename_i b hx;rw[hx] at hr;rcases hs.h with hs|⟨σ,inv,good,hA,hB,hJ⟩;{exact wp_cond_split (sG hr) (λe=>ihy hc.1 h (hs.1 e) hk) (λe=>ihz hc.2 h (hs.2 e) hk)};{exact wp_cond_split (sG hr) (λe=>Code.wp_mono (Ss hk hJ) (ihy hc.1 h (hA e) Gc)) (λe=>Code.wp_mono (Ss hk hJ) (ihz hc.2 h (hB e) Gc))}};{rename_i b hx;rw[hx] at hr;rcases hs.h with hs|⟨σ,inv,good,hA,hB,hJ⟩;{exact wp_cond_split (aQ hr) (λe=>ihy hc.1 h (hs.2 (by grind)) hk) (λe=>ihz hc.2 h (hs.1 (by grind)) hk)};{exact wp_cond_split (aQ hr) (λe=>Code.wp_mono (Ss hk hJ) (ihy hc.1 h (hB (by grind)) Gc)) (λe=>Code.wp_mono (Ss hk hJ) (ihz hc.2 h (hA (by grind)) Gc))}};grind
 |block id b ih =>
  intro hc ps Q a w S β QM h hs hk;simp only[jR] at hc;simp only[wp] at hs;refine Go.wp_block (ih hc h hs ?_);intro e ps' a' w' S' β' hq hsim;cases e with
  |exit i =>
   simp only[Exit.inBlock];cases hb:nqb i id with
   |true =>
    have:=y5 hb;grind
   |false =>
    (have hne:i≠id:=λe=>by simp_all);grind
  |normal=>exact hk _ _ _ _ _ _ hq hsim| goto l=>exact hk _ _ _ _ _ _ hq hsim| ret=>exact hk _ _ _ _ _ _ hq hsim| panic ch=>exact hk _ _ _ _ _ _ hq hsim| outgrown=>exact hk _ _ _ _ _ _ hq hsim
 |exit id=>intro _ ps Q a w S β QM h hs hk;exact wp_exit (hk _ _ _ _ _ _ hs h)| label l=>intro _ ps Q a w S β QM h hs hk;exact wp_label (hk _ _ _ _ _ _ hs h)| scope b ih =>
  intro hc ps Q a w S β QM h hs hk;simp only[jR] at hc;simp only[wp] at hs;refine Go.wp_scope_straight (ih hc h hs ?_);intro e ps' a' w' S' β' hq hsim;cases e with
  |goto l=>grind| normal=>exact hk _ _ _ _ _ _ hq hsim| exit i=>exact hk _ _ _ _ _ _ hq hsim| ret=>exact hk _ _ _ _ _ _ hq hsim| panic ch=>exact hk _ _ _ _ _ _ hq hsim| outgrown=>exact hk _ _ _ _ _ _ hq hsim
 |ret=>intro _ ps Q a w S β QM h hs hk;exact wp_ret (hk _ _ _ _ _ _ hs h)| loop b ih =>
  intro hc ps Q a w S β QM h hs hk;simp only[jR] at hc;simp only[wp] at hs;obtain⟨σ,inv,good,mu,s0,hg,hw,hround⟩:=hs.h;obtain⟨S1,β1,h1⟩:=hw.sound h;refine wp_loop_ghost (λn a w=>∃ s S β,good s/\mu s=n/\Sim w0 S0 K0 N (zD (inv s).tmps) (inv s).objs a w S β) (mu s0) ⟨s0,S1,β1,hg,rfl,h1⟩ ?_;rintro n a' w' ⟨s,S2,β2,hgs,rfl,hsim⟩;refine ih hc hsim (hround s hgs) ?_;intro e ps' a2 w2 S3 β3 hq hsim2;cases e with
  |normal =>
   obtain⟨s',hg',hmu,hwk⟩:=hq;obtain⟨S4,β4,h4⟩:=hwk.sound hsim2;exact⟨mu s',hmu,s',S4,β4,hg',rfl,h4⟩
  |exit i=>exact hk _ _ _ _ _ _ hq hsim2| goto l=>exact hk _ _ _ _ _ _ hq hsim2| ret=>exact hk _ _ _ _ _ _ hq hsim2| panic ch=>exact hk _ _ _ _ _ _ hq hsim2| outgrown=>exact hk _ _ _ _ _ _ hq hsim2
 |_=>intro _ ps Q a w S β QM h hs hk;simp only[wp] at hs
theorem Fo {w:World}{S:Nat->Nat->Prop}{β:Bm}{t:Nat}{cs:List PV}{off:Nat}{pv:PV}(h:rdV (ty t) cs off=some pv){b o:Nat}(vals:Nat->Value) (hc:∀ j,j<cs.length->w.cell? ⟨b,o+j,none⟩=some (vals j)) (hr:∀ j,j<cs.length->Rep w S β (vals j) (cs.getD j .any)):∃ val,(loadVar t ⟨b,o+off,none⟩).run Pg w=.ok val w/\Rep w S β val pv:=by
 have hk:rdK (ty t) cs off (λv=>v=pv):=by unfold rdV at h;unfold rdK;grind
 obtain⟨pv',val,h1,h2,h3⟩:=aR hk vals hc hr;grind [Instr.loadAt,Instr.sureAddr]
def UF (tmps:Array Value):ResultVar->Sem Value
 |.tmp t=>pure (tmps.getD t undef)| .cell a t=>do loadVar t (<-asAddr (tmps.getD a undef))
theorem J2 (fn:Func)(tmps:Array Value):results fn tmps=(do let vs <-fn.results.mapM (UF tmps);pure (if h:vs.size=1 then vs[0] else .tuple vs)):=by unfold results;congr 2
theorem iI {ps:PS}{a:Act}{w:World}{S:Nat->Nat->Prop}{β:Bm}(h:Sim w0 S0 K0 N (zD ps.tmps) ps.objs a w S β):∀ (rs:List ResultVar) {l:List PV},dW ps rs=some l ->∃ vs:List Value,(rs.mapM (UF a.tmps):Sem (List Value)).run Pg w=.ok vs w/\RepL w S β vs.toArray l
 |[],l,he=>by simp only[dW,t5] at he;subst he;exact⟨[],rfl,rfl,λj hj=>by grind⟩| .tmp t::r,l,he=>by
  simp only[dW] at he;split at he
  ·rename_i l' hl';simp only[t5] at he;subst he;obtain⟨vs,h1,h2⟩:=iI h r hl';refine⟨a.tmps.getD t undef::vs,by grind [Sem.run_bind,UF,Sem.run_pure,Result.andThen_ok],by simpa using h2.1,λj hj=>?_⟩;cases j with
   |zero=>simpa using h.tmp t| succ j=>simpa using h2.2 j (by grind)
  grind
 |.cell x t::r,l,he=>by
  simp only[dW] at he;split at he
  ·rename_i n off hx;split at he
   ·rename_i cs ho;split at he
    ·rename_i v l' hv hl';simp only[t5] at he;subst he;obtain⟨vs,h1,h2⟩:=iI h r hl';have hr:=h.tmp x;rw[hx] at hr;obtain⟨b,hβ,hv'⟩:=jH hr;obtain⟨b',us,T,hβ',hb,hsz,hrr⟩:=UQ h ho;rw[hβ] at hβ';cases hβ';obtain⟨val,h3,h4⟩:=Fo (w:=w) (S:=S) (β:=β) (b:=b) (o:=0) hv (λj=>us.getD j undef) (λj hj=>by rw[wQ];grind [gQ]) hrr;rw[wQ] at h3;refine⟨val::vs,?_,by simpa using h2.1,λj hj=>?_⟩;{grind [UF,Sem.run_bind,asAddr,Sem.run_pure,Result.andThen_ok]}
     ·cases j with
      |zero=>simp_all| succ j=>simpa using h2.2 j (by grind)
    grind
   grind
  grind
theorem W9 {fn:Func}{ps:PS}{a:Act}{w:World}{S:Nat->Nat->Prop}{β:Bm}(h:Sim w0 S0 K0 N (zD ps.tmps) ps.objs a w S β){l:List PV}(hl:dW ps fn.results.toList=some l):∃ v,(results fn a.tmps).run Pg w=.ok v w/\Rep w S β v (mM l):=by
 obtain⟨vs,h1,h2⟩:=iI h _ hl;refine⟨if h:vs.toArray.size=1 then vs.toArray[0] else .tuple vs.toArray,?_,?_⟩;{rw[J2,Array.mapM_eq_mapM_toList,Sem.run_bind,Sem.run_map,h1];rfl}
 ·by_cases h3:vs.toArray.size=1
  ·rw[dif_pos h3];have h4:l.length=1:=by rw[<-h2.1];exact h3
   match l,h4 with
   |[x],_ =>
    have:=h2.2 0 (by simp);simp only[mM];simp_all
  ·(rw[dif_neg h3];have h4:l.length≠1:=by rw[<-h2.1];exact h3);have:mM l=.tup l:=by
    match l with
    |[]=>rfl| [x]=>grind| x::y::r=>rfl
   rw[this];exact .tup h2.1 h2.2
theorem XZ {h:Nat->Nat}:∀ {l:List (Nat×Obj')},ZJ h l->∀ {n o},(n,o)∈l->h n=n/\1000000<=n
 |(m,x)::r,H,n,o,hm=>by simp only[yS] at hm;rcases hm with hm|hm;{cases hm;exact H.1};{exact XZ H.2 hm}
theorem oG {h:Nat->Nat}:∀ {l:List Nat},(l.map h).Nodup->l.Nodup
 |[],_=>List.nodup_nil| x::r,hnd=>by simp only[kK,WX] at hnd ⊢;exact⟨λhx=>hnd.1 (y9.2 ⟨x,hx,rfl⟩),oG hnd.2⟩
def Vk:Nat->List PV->List (Nat×PV)
 |_,[]=>[]| k,v::r=>(k,v)::Vk (k+1) r
theorem V0:∀ (l:List PV) (k t:Nat),zD (Vk k l) t=if k<=t/\t<k+l.length then l.getD (t-k) .any else .any
 |[],k,t=>by simp[Vk,zD]| v::r,k,t=>by simp only[Vk,zD];by_cases h:k=t;{simp_all};{rw[Ha h];simp only[];rw[V0 r (k+1) t];grind}
theorem Dw {f : FuncId} {fn : Func} {c : Code} (hf : Pg.funcs[f]? = some fn) (hb : fn.body = some c) (hname : (fn.name == "runtime.NumGoroutine") = false) (hN : jR fn.ntmps c = true) {args : List PV} (hargs : nle args.length fn.ntmps = true) {kept eaten:List (Nat × Obj')} {r:PV} {kept' made:List (Nat × Obj')} (hnk:kept'.map Prod.fst=kept.map Prod.fst) (hwp:wp c ⟨Vk 0 args,kept++eaten⟩ (gT fn.results.toList r kept' made)):Sound f args kept eaten r kept' made where
 isf vals w:=by
  (have hn : ¬ fn.name = "runtime.NumGoroutine" := by grind);simp[callFunc,hf,hn,hb]
 go w S β vals hbnd hobj hsz hrep:=by
  have hal:=mP hargs;refine calls_of_wp hf hb ?_;have hsim:Sim w S (Blk β (kept++eaten)) ⟨fn.ntmps,β⟩ (zD (Vk 0 args)) (kept++eaten) { tmps:=vals++Array.replicate (fn.ntmps-vals.size) undef,defers:=[] } w S β:=by
   refine⟨rfl,by grind,⟨yQ _,rfl,rfl,rfl,λ_ _ _=>rfl,λb vs T h=>⟨vs,h,rfl⟩,hbnd,λ_ _ _ h=>h,λ_ _ _ _ h=>h⟩,λt=>?_,hobj,λn o b hm hβ=>.inr ⟨n,o,hm,hβ⟩,λ_ _ _ _=>rfl⟩;rw[V0];by_cases h:t<args.length
   ·(rw[if_pos oM];have h1:=hrep t h;have hlt:t<vals.size:=by omega);simpa[Array.getElem?_append_left hlt] using h1
   {rw[if_neg oM];exact wI _}
  refine F6 c hN hsim hwp ?_;have fin:∀ ps' a' w' S' β',RetOk fn.results.toList r kept' made ps'->Sim w S (Blk β (kept++eaten)) ⟨fn.ntmps,β⟩ (zD ps'.tmps) ps'.objs a' w' S' β' ->
    a'.defers=[]/\∃ v,(results fn a'.tmps).run Pg w'=.ok v w'/\(∃ v' S' β',Ending.returned v=.returned v'/\Leads w S (Blk β (kept++eaten)) w' S'/\Rep w' S' β' v' r/\ObjsAt w' S' β' (kept'++made) /\
   (kept'.map Prod.fst=kept.map Prod.fst)/\(∀ n o,(n,o)∈kept->β' n=β n) /\
   (∀ n o b,(n,o)∈kept'++made->Own β' n o b->w.heap.size<=b\/Blk β (kept++eaten) b)):=by
   intro ps1 a' w' S1 β1 hr h1;obtain⟨ps',l,hn,hw,hl,hle,hlv,hobjs,hnd,hkid⟩:=hr.h;obtain⟨S2,β2,h2⟩:=hw.sound h1;obtain⟨v,h3,h4⟩:=W9 h2 hl;have hmem:∀ {n o},(n,o)∈kept'++made->(hn n,xY (ren hn) o)∈ps'.objs/\bK o=true:=λhm=>mT hobjs hm;have hndn:=fO hnd;have fstH:∀ {n o},(n,o)∈kept'++made->∀ {m o'},(m,o')∈kept'++made->hn n=hn m->n=m:=λhm _ _ hm' he=>nP hndn hm hm' he;refine⟨h2.dfr,v,h3,v,S2,β2.ren hn,rfl,h2.ld,UI (h4.le _ hle) hlv,⟨?_,λn o hm=>H9 (hmem hm).2 (h2.obj.at_ _ _ (hmem hm).1),λn o b hm hβ=>?_,
    λn o m o' b hm hm' hβ hβ'=>fstH hm hm' (h2.obj.inj _ _ _ _ b (hmem hm).1 (hmem hm').1 (rF.1 hβ) (rF.1 hβ'))⟩,hnk,λn o hm=>?_,λn o b hm hβ=>h2.own _ _ b (hmem hm).1 (rF.1 hβ)⟩
   {rw[cM] at hndn;exact oG hndn};{obtain⟨h5,h6⟩:=h2.obj.un _ _ b (hmem hm).1 (rF.1 hβ);grind [VM]};{obtain⟨o',hm'⟩:=YM hnk.symm hm;obtain⟨e1,e2⟩:=XZ hkid hm';have:=h2.keep n _ (by have:=(hmem (Zk made hm')).1;rwa [e1] at this) e2;show β2 (hn n)=β n;grind}
  intro e ps' a' w' S' β' hq hs';cases e with
  |normal=>exact fin _ _ _ _ _ hq hs'| ret=>exact fin _ _ _ _ _ hq hs'| exit i=>exact hq.elim| goto l=>exact hq.elim| panic ch=>exact hq.elim| outgrown=>exact hq.elim
end
def ZT (f:Func):Code:=f.body.getD .skip
theorem xB {f : FuncId} {fn : Func} (hf : Pg.funcs[f]? = some fn) (hb : fn.body.isSome = true) (hname : (fn.name == "runtime.NumGoroutine") = false) (hN : jR fn.ntmps (ZT fn) = true) {args : List PV} (hargs : nle args.length fn.ntmps = true) {kept eaten:List (Nat × Obj')} {r:PV} {kept' made:List (Nat × Obj')} (hnk:kept'.map Prod.fst=kept.map Prod.fst) (hwp:wp (ZT fn) ⟨Vk 0 args,kept++eaten⟩ (gT fn.results.toList r kept' made)):Sound f args kept eaten r kept' made:=by
 obtain⟨c,hc⟩:=Jv.1 hb;have:ZT fn=c:=by simp[ZT,hc]
 rw[this] at hN hwp;exact Dw hf hc hname hN hargs hnk hwp
theorem xI {g as_ dst ps K f caps args' r}(h1:ev (zD ps.tmps) g=.fn f caps)(h2:jC les (evs (ev (zD ps.tmps)) as_++caps) args')(h3:zH f args' r)(h5:nmIn [] r=true)(h4:K (put ps dst r)):CallOk g as_ dst ps K :=
 ⟨ps,.refl ps,f,caps,h1,.inl ⟨args',r,p6 h2,h3,h5,h4⟩⟩
theorem jL {rs:List ResultVar}{r:PV}{ps:PS}{l:List PV}(h1:dW ps rs=some l)(h2:les (mM l) (ren id r))(h3:lv r=true):RetOk rs r [] [] ps :=
 ⟨ps,l,id,.refl ps,h1,cO h2,h3,trivial,rfl,trivial⟩
theorem M0 {rs:List ResultVar}{r:PV}{ps:PS}(h3:lv r=true)(h:match dW ps rs with
  |some l=>les (mM l) (ren id r)| none=>False):RetOk rs r [] [] ps:=by
 cases h1:dW ps rs with
 |none=>rw[h1] at h;exact h.elim| some l=>rw[h1] at h;exact jL h1 h h3
theorem zY {B:PS->(Exit->PS->Prop)->Prop}{ps:PS}{Q:Exit->PS->Prop}{σ:Type}(inv:σ->PS)(good:σ->Prop)(mu:σ->Nat)(s0:σ)(h0:good s0)(hw:Wk ps (inv s0)) (hr:∀ s,good s->B (inv s) (λe ps'=>match e with
   |.normal=>∃ s',good s'/\mu s'<mu s/\Wk ps' (inv s')| e=>Q e ps')):LoopOk B ps Q:=⟨⟨σ,inv,good,mu,s0,h0,hw,hr⟩⟩
theorem PZ (v:PV):rn0 id v=v:=by cases v <;> rfl
theorem YH {f:PV->PV}(h:∀ v,f v=v):∀ (l:List PV),wW f l=l
 |[]=>rfl| v::r=>by simp only[wW,h v,YH h r]
theorem PY (v:PV):rn1 id v=v:=by cases v <;> simp only[rn1,rn0,YH PZ,id]
theorem Ci (v:PV):ren id v=v:=by cases v <;> simp only[ren,rn0,YH PY,id]
theorem Ge {f:PV->PV}(h:∀ v,f v=v):∀ (l:List (PV×(Unit->Nat))),gG f l=l
 |[]=>rfl| (v,k)::r=>by simp only[gG,h v,Ge h r]
theorem XQ (o:Obj'):xY (ren id) o=o:=by cases o <;> simp only[xY,YH Ci,Ge Ci]
theorem Fn {rs:List ResultVar}{r:PV}{ps ps':PS}{l:List PV}(hw:Wk ps ps')(h1:dW ps' rs=some l)(h2:les (mM l) (ren id r))(h3:lv r=true):RetOk rs r [] [] ps :=
 ⟨ps',l,id,hw,h1,cO h2,h3,trivial,rfl,trivial⟩
theorem j4 {g as_ dst ps ps' K f caps args' r}(hw:Wk ps ps')(h1:ev (zD ps'.tmps) g=.fn f caps)(h2:jC les (evs (ev (zD ps'.tmps)) as_++caps) args')(h3:zH f args' r)(h5:nmIn [] r=true)(h4:K (put ps' dst r)):CallOk g as_ dst ps K :=
 ⟨ps',hw,f,caps,h1,.inl ⟨args',r,p6 h2,h3,h5,h4⟩⟩
theorem rU {n:Nat}{els:List (List PV)}{d:Nat}{ps:PS}{K:PS->Prop}(h:K (put ps (some d) (AR els))):BldK n els d ps K:=⟨.inl h⟩
theorem YX {n:Nat}{els:List (List PV)}{d:Nat}{ps:PS}{K:PS->Prop}(hf:yO d ps=true)(h:K ⟨vQ ps.tmps d (.osl d n (λ_=>0) (λ_=>(zI els).length)),ps.objs++[(d,.arr n (λ_=>zI els))]⟩):BldK n els d ps K:=⟨.inr ⟨hf,h⟩⟩
theorem Jk {t base x d ps K n b z xs}(ht:ty t=.sli n b z){m o len els}(hb:ev (zD ps.tmps) base=.osl m n o len)(ho:yK ps.objs m=some (.arr n els))(ho0:o ()=0)(hl:len ()=(els ()).length){m' o' len'}(hx:ev (zD ps.tmps) x=.osl m' n o' len')(hm:yK ps.objs m'=some (.arr n xs))(h0:o' ()=0)(hl':len' ()=(xs ()).length)(hw:Wid n xs) (hr:Room (λ_=>(((els ()).length+(xs ()).length:Nat):Int)) b) (hf:yO d ⟨xW (scr m) ps.tmps,y6 (scr m) (xK ps.objs m)⟩=true) (hK:K ⟨vQ (xW (scr m) ps.tmps) d (.osl d n (λ_=>0) (λ_=>(els ()).length+(xs ()).length)),y6 (scr m) (xK ps.objs m)++[(d,.arr n (λ_=>els ()++xs ()))]⟩):AppK t base x (some d) ps K :=
 ⟨.inl ⟨ps,d,d,n,b,z,xs,.refl ps,rfl,ht,.inr ⟨false,m',o',len',xs,hx,hm,by omega,by rw[h0,hl'];simp⟩,hw,.inr ⟨false,m,o,len,els,els,hb,ho,ho0,hl,by rw[hl];simp,λ_=>rfl,hr,hf,hK⟩⟩⟩
theorem xT {t base x d ps K n b z xs}(ht:ty t=.sli n b z){m o len els}(hb:ev (zD ps.tmps) base=.osl m n o len)(ho:yK ps.objs m=some (.arr n els))(ho0:o ()=0)(hl:len ()=(els ()).length)(hx:ev (zD ps.tmps) x=.sl xs)(hw:Wid n xs) (hr:Room (λ_=>(((els ()).length+(xs ()).length:Nat):Int)) b) (hf:yO d ⟨xW (scr m) ps.tmps,y6 (scr m) (xK ps.objs m)⟩=true) (hK:K ⟨vQ (xW (scr m) ps.tmps) d (.osl d n (λ_=>0) (λ_=>(els ()).length+(xs ()).length)),y6 (scr m) (xK ps.objs m)++[(d,.arr n (λ_=>els ()++xs ()))]⟩):AppK t base x (some d) ps K :=
 ⟨.inl ⟨ps,d,d,n,b,z,xs,.refl ps,rfl,ht,.inl (.inl hx),hw,.inr ⟨false,m,o,len,els,els,hb,ho,ho0,hl,by rw[hl];simp,λ_=>rfl,hr,hf,hK⟩⟩⟩
theorem Qz {t base x d ps K n b z xs}(ht:ty t=.sli n b z){m o len els}(hb:ev (zD ps.tmps) base=.osl m n o len)(ho:yK ps.objs m=some (.log n els))(ho0:o ()=0)(hl:len ()=(els ()).length)(hx:ev (zD ps.tmps) x=.sl xs)(hw:Wid n xs) (hr:Room (λ_=>(((els ()).length+(xs ()).length:Nat):Int)) b) (hf:yO d ⟨xW (scr m) ps.tmps,y6 (scr m) (xK ps.objs m)⟩=true) (hK:K ⟨vQ (xW (scr m) ps.tmps) d (.osl d n (λ_=>0) (λ_=>(els ()).length+(xs ()).length)),y6 (scr m) (xK ps.objs m)++[(d,.log n (λ_=>els ()++xs ()))]⟩):AppK t base x (some d) ps K :=
 ⟨.inl ⟨ps,d,d,n,b,z,xs,.refl ps,rfl,ht,.inl (.inl hx),hw,.inr ⟨true,m,o,len,els,els,hb,ho,ho0,hl,by rw[hl];simp,λ_=>rfl,hr,hf,hK⟩⟩⟩
theorem xE {t base x d ps K n b z xs}(ht:ty t=.sli n b z){m o len els}(hb:ev (zD ps.tmps) base=.osl m n o len)(ho:yK ps.objs m=some (.arr n els))(ho0:o ()=0)(hl:len ()=(els ()).length)(hx:ev (zD ps.tmps) x=.sl xs)(hw:Wid n xs) (hr:Room (λ_=>(((els ()).length+(xs ()).length:Nat):Int)) b) (hf:yO m ⟨xW (scr m) ps.tmps,y6 (scr m) (xK ps.objs m)⟩=true) (hK:K ⟨vQ (xW (scr m) ps.tmps) d (.osl m n (λ_=>0) (λ_=>(els ()).length+(xs ()).length)),y6 (scr m) (xK ps.objs m)++[(m,.arr n (λ_=>els ()++xs ()))]⟩):AppK t base x (some d) ps K :=
 ⟨.inl ⟨ps,d,m,n,b,z,xs,.refl ps,rfl,ht,.inl (.inl hx),hw,.inr ⟨false,m,o,len,els,els,hb,ho,ho0,hl,by rw[hl];simp,λ_=>rfl,hr,hf,hK⟩⟩⟩
theorem Jj {t base x d ps K n b z xs}(ht:ty t=.sli n b z){m o len els}(hb:ev (zD ps.tmps) base=.osl m n o len)(ho:yK ps.objs m=some (.log n els))(ho0:o ()=0)(hl:len ()=(els ()).length)(hx:ev (zD ps.tmps) x=.sl xs)(hw:Wid n xs) (hr:Room (λ_=>(((els ()).length+(xs ()).length:Nat):Int)) b) (hf:yO m ⟨xW (scr m) ps.tmps,y6 (scr m) (xK ps.objs m)⟩=true) (hK:K ⟨vQ (xW (scr m) ps.tmps) d (.osl m n (λ_=>0) (λ_=>(els ()).length+(xs ()).length)),y6 (scr m) (xK ps.objs m)++[(m,.log n (λ_=>els ()++xs ()))]⟩):AppK t base x (some d) ps K :=
 ⟨.inl ⟨ps,d,m,n,b,z,xs,.refl ps,rfl,ht,.inl (.inl hx),hw,.inr ⟨true,m,o,len,els,els,hb,ho,ho0,hl,by rw[hl];simp,λ_=>rfl,hr,hf,hK⟩⟩⟩
theorem Yj {v:PV}{k i:Unit->Nat}{hs:List (PV×(Unit->Nat))}{K:PV->Prop}(h:k ()=i ())(hK:K v):HoleK ((v,k)::hs) i K:=⟨v,k,vH,h,hK⟩
theorem NF {v v':PV}{k i:Unit->Nat}{K:List (PV×(Unit->Nat))->Prop}(h:k ()=i ())(hK:K [(v',k)]):StoH [(v,k)] i v' K:=⟨[],v,k,[],rfl,h,λ_ _ h=>(by cases h),hK⟩
theorem Wd {i:Unit->Nat}{rows:Unit->List (List (List D))}(h:i ()<(rows ()).length):FocOk i rows []:=⟨h,λ_ _ h=>(by cases h)⟩
theorem SC {i:Unit->Nat}{rows:Unit->List (List (List D))}{v:PV}{k:Unit->Nat}(h:i ()<(rows ()).length)(hk:k ()≠i ()):FocOk i rows [(v,k)]:=⟨h,λv' k' h'=>by
 rcases yS.1 h' with e|e;{cases e;exact hk}
 ·cases e⟩
theorem Nb {objs:List (Nat×Obj')}{v:PV}{K:PV->Prop}(h:K v):LdK objs v K:=⟨.inl h⟩
theorem Hg {objs:List (Nat×Obj')}{v:PV}{K:PV->Prop}(n:Nat){s:Nat}{els:Unit->List (List D)}(h1:yK objs n=some (.lent s els))(h2:fo n (.lent s els) v)(h3:K (frz n (.lent s els) v)):LdK objs v K:=⟨.inr ⟨n,s,els,h1,h2,h3⟩⟩
theorem J3 {ops:List Oper}{ps:PS}{K:PS->Prop}(h:jB ops ops ps K):RegK ops ps K:=⟨.inl h⟩
theorem Kg {ops:List Oper}{ps:PS}{K:PS->Prop}{σ:Type}(inv:σ->PS)(good:σ->Prop)(h1:jB ops ops ps (λps'=>∃ s,good s/\Wk ps' (inv s)))(h2:∀ s,good s->K (inv s)):RegK ops ps K:=⟨.inr ⟨σ,inv,good,h1,h2⟩⟩
theorem z6 {i len:Nat}{els:List (List D)}(h:i+len<=els.length):FrOk (λ_=>i) (λ_=>len) (λ_=>els):=⟨h⟩
theorem zP {ops:List Oper}{ps:PS}{K:PS->Prop}(k:Nat)(hd:fG ops k=true)(h:Yw ops [] (yR (ops.take k)) ps.objs (ops.take k) 0 ps.tmps ps.objs (λT O=>VP (yR (ops.take k)) T (jB ops (ops.drop k) ⟨T,O⟩ K)))(hm:(ndO (yR (ops.take k))&&UY ps (yR (ops.take k)))=true:=by cbv):DrawK ops ps K:=.ef k [] ps (.refl ps) hd rfl hm h
theorem Wv {ops:List Oper}{ps ps':PS}{K:PS->Prop}(k:Nat)(hw:Wk ps ps')(hd:fG ops k=true)(h:Yw ops [] (yR (ops.take k)) ps'.objs (ops.take k) 0 ps'.tmps ps'.objs (λT O=>VP (yR (ops.take k)) T (jB ops (ops.drop k) ⟨T,O⟩ K)))(hm:(ndO (yR (ops.take k))&&UY ps' (yR (ops.take k)))=true:=by cbv):DrawK ops ps K:=.ef k [] ps' hw hd rfl hm h
theorem dR {ops:List Oper}{ps:PS}{K:PS->Prop}(k:Nat)(hd:fG ops k=true)(hm:(ndO (yR (ops.take k))&&UY ps (yR (ops.take k)))=true) (h:Yw ops [] (yR (ops.take k)) ps.objs (ops.take k) 0 ps.tmps ps.objs (λT O=>VP (yR (ops.take k)) T (jB ops (ops.drop k) ⟨T,O⟩ K))):DrawK ops ps K:=.ef k [] ps (.refl ps) hd rfl hm h
theorem YQ {ops:List Oper}{ps:PS}{K:PS->Prop}(k i0:Nat)(hd:fG ops k=true)(hm:QW ops k i0 []=true)(h:QV ops k i0 0 [] ps K):DrawK ops ps K:=.st k i0 0 [] ps (.refl ps) hd hm h
theorem SK {ops:List Oper}{ps:PS}{K:PS->Prop}(k i0 n:Nat)(us:List Nat)(hd:fG ops k=true)(hm:QW ops k i0 us=true)(h:QV ops k i0 n us ps K):DrawK ops ps K:=.st k i0 n us ps (.refl ps) hd hm h
theorem uB {ops:List Oper}{ps:PS}{K:PS->Prop}(k:Nat)(es:List (Nat×Nat))(hd:fG ops k=true)(he:TC ops k es=true)(hm:(ndO (yR (ops.take k))&&UY ps (yR (ops.take k)))=true) (h:Yw ops es (yR (ops.take k)) (gJ (kZ es) ps.objs) (ops.take k) 0 ps.tmps ps.objs (λT O=>VP (yR (ops.take k)) T (jB ops (ops.drop k) ⟨T,O⟩ K))):DrawK ops ps K:=.ef k es ps (.refl ps) hd he hm h
theorem YR {ops:List Oper}{ps:PS}{K:PS->Prop}(k:Nat)(es:List (Nat×Nat))(hd:fG ops k=true)(he:TW k es=true) (h:QB ops es (anc ops) (gJ (kZ es) ps.objs) (ops.take k) 0 ps.tmps ps.objs (λT O=>jB ops (ops.drop k) ⟨sR (kZ es) T,y6 (scC (kZ es)) O⟩ K)):DrawK ops ps K:=.ap k es ps (.refl ps) hd he h
theorem o5 {ops:List Oper}{ps ps':PS}{K:PS->Prop}{σ:Type}(inv:σ->PS)(good:σ->Prop)(hw:Wk ps ps')(hsel:Region.noSelect ops.toArray=true)(h:WR ops ops.length (List.replicate ops.length false) ps' (λq=>∃ s,good s/\Wk q (inv s)))(h2:∀ s,good s->K (inv s)):DrawK ops ps K:=.br σ inv good ps' hw hsel h h2
theorem oZ {t:TypeId}{x:Operand}{T:List (Nat×PV)}{n s b:Nat}{z:List PV}{xs els:Unit->List (List D)}{o' len:Unit->Nat}{K:PV->Obj'->Prop}(h1:ty t=.sli s b z)(h2:ev (zD T) x=.sl xs)(h3:Wid s xs)(h4:o' ()=0)(h5:len ()=(els ()).length) (h6:Room (λ_=>(((els ()).length+(xs ()).length:Nat):Int)) b) (hK:K (.osl n s (λ_=>0) (λ_=>(els ()).length+(xs ()).length)) (.arr s (λ_=>els ()++xs ()))):EffA t x (.osl n s o' len) T (some (.arr s els)) n K :=
 ⟨s,b,z,xs,false,els,h1,.inl h2,h3,rfl,.inl ⟨o',len,rfl,h4,h5,h6,hK⟩⟩
theorem bD {objs:List (Nat×Obj')}{f:FuncId}{args cargs:List PV}{kept:List (Nat×Obj')}{K:PV->Prop}{r:PV}(hn:Nat->Nat)(h2:jC les args (iJ hn cargs))(h3:Sound f cargs kept [] r kept [])(h4:uA hn objs kept)(h5:ndO (yC hn kept)=true)(h6:ndO kept=true) (h7:cK (bR kept) kept=true) (h8:yX lv cargs=true) (h9:lv r=true) (h10:nmIn (bR kept) r=true) (h11:K (ren hn r)):CallS true objs f args K:=⟨.inr ⟨rfl,hn,cargs,kept,r,p6 h2,h3,h4,h5,h6,h7,h8,h9,h10,h11⟩⟩
theorem Wu {g:Operand}{as_:List Operand}{T:List (Nat×PV)}{n:Nat}{K:PV->Obj'->Prop}{f:FuncId}{caps cargs:List PV}{m:Nat}{x x':Obj'}{r:PV}(hn:Nat->Nat) (h1:ev (zD T) g=.fn f caps) (h2:jC les (evs (ev (zD T)) as_++caps) (iJ hn cargs)) (h3:Sound f cargs [(m,x)] [] r [(m,x')] []) (h4:hn m=n) (h6:tG x=true) (h7:tG x'=true) (h9:yX lv cargs=true) (h10:lv r=true) (h11:nmIn [m] r=true) (h12:K (ren hn r) x'):Eff1 g as_ T (some x) n K:=⟨f,caps,hn,cargs,m,x,r,x',h1,p6 h2,h3,h4,rfl,h6,h7,h9,h10,h11,h12⟩
theorem gV (z:Int):nx .u32 z=z%4294967296:=by unfold nx;simp[IntKind.wrap,IntKind.signed,IntKind.bits]
theorem uM (z:Int):nx .u64 z=z%18446744073709551616:=by unfold nx;simp[IntKind.wrap,IntKind.signed,IntKind.bits]
theorem zS (n:Nat):@NatCast.natCast Int instNatCastInt n=((n:Nat):Int):=rfl
theorem zX {p:Prop}[Decidable p]{A B:Unit->Prop}(h1:p->A ())(h2:¬p->B ()):Br (λ_=>decide p) A B:=⟨λh=>h1 (of_decide_eq_true h),λh=>h2 (of_decide_eq_false h)⟩
theorem yI {b:Bool}{A B:Unit->Prop}(h1:b=true->A ())(h2:b=false->B ()):Br (λ_=>b) A B:=⟨h1,h2⟩
theorem zG {p:Prop}[Decidable p]{A B:(Exit->PS->Prop)->Prop}{Q:Exit->PS->Prop}(h1:p->A Q)(h2:¬p->B Q):Cut (λ_=>decide p) A B Q:=⟨.inl ⟨λh=>h1 (of_decide_eq_true h),λh=>h2 (of_decide_eq_false h)⟩⟩
theorem zZ {b:Bool}{A B:(Exit->PS->Prop)->Prop}{Q:Exit->PS->Prop}(h1:b=true->A Q)(h2:b=false->B Q):Cut (λ_=>b) A B Q:=⟨.inl ⟨h1,h2⟩⟩
theorem gK {p:Prop}[Decidable p]{A B:(Exit->PS->Prop)->Prop}{Q:Exit->PS->Prop}{σ:Type}(inv:σ->PS)(good:σ->Prop) (h1:p->A (XP inv good Q)) (h2:¬p->B (XP inv good Q)) (h3:∀ s,good s->Q .normal (inv s)):Cut (λ_=>decide p) A B Q :=
 ⟨.inr ⟨σ,inv,good,λh=>h1 (of_decide_eq_true h),λh=>h2 (of_decide_eq_false h),h3⟩⟩
theorem cS {b:Bool}{A B:(Exit->PS->Prop)->Prop}{Q:Exit->PS->Prop}{σ:Type}(inv:σ->PS)(good:σ->Prop) (h1:b=true->A (XP inv good Q)) (h2:b=false->B (XP inv good Q)) (h3:∀ s,good s->Q .normal (inv s)):Cut (λ_=>b) A B Q :=
 ⟨.inr ⟨σ,inv,good,h1,h2,h3⟩⟩
theorem zE {z:Int}(h1:-9223372036854775808<=z)(h2:z<=9223372036854775807):InI64 (λ_=>z):=⟨h1,h2⟩
theorem uD {z:Int}(h:0<=z):Nn (λ_=>z):=⟨h⟩
theorem kN {z:Int}(h:z≠0):Nz (λ_=>z):=⟨h⟩
theorem z9 {k:Int}{n:Nat}(h1:0<=k)(h2:k<(n:Int)):Rng (λ_=>k) (λ_=>n):=⟨h1,h2⟩
theorem qY {l h:Int}{n:Nat}(h1:0<=l)(h2:l<=h)(h3:h<=(n:Int)):SlOk (λ_=>l) (λ_=>h) (λ_=>n):=⟨h1,h2,h3⟩
theorem Pj {l h:Int}{A B:Prop}(h1:l<h)(hA:A):SlT (λ_=>l) (λ_=>h) A B:=⟨.inl ⟨.inl h1,hA⟩⟩
theorem zV {n:Int}{b:Nat}(h1:0<=n)(h2:n*(b:Int)<=70368744177664):Room (λ_=>n) b:=⟨h1,h2⟩
theorem uU {x y:Int}(h1:0<=x)(h2:x<=y):MkOk (λ_=>x) (λ_=>y):=⟨h1,h2⟩
theorem C0 {n:Nat}{els:List (List D)}{k:Int}{K:List PV->Prop}(j:Nat)(hk:k=(j:Int))(c:List PV)(hf:yX qT c=true)(hn:c.length=n)(he:els[j]?=some (y7 c))(hK:K c):IdxOk n (λ_=>els) (λ_=>k) K :=
 ⟨⟨by simp only[hk];omega,c,hf,hn,by simp only[hk,uF];exact he,hK⟩⟩
theorem K8 {n:Nat}{els:List (List D)}{i:Nat}{K:List PV->Prop}(j:Nat)(hk:i=j)(c:List PV)(hf:yX qT c=true)(hn:c.length=n)(he:els[j]?=some (y7 c))(hK:K c):ElOk n (λ_=>els) (λ_=>i) K :=
 ⟨⟨c,hf,hn,by simp only[hk];exact he,hK⟩⟩
theorem pC (a:PV):LeS a a:=⟨Le.refl a⟩
theorem zF {k:IntKind}{a b:Int}(h:a=b):LeS (.int k (λ_=>a)) (.int k (λ_=>b)):=⟨by simp[Le,h]⟩
theorem zU {a b:List (List D)}(h:a=b):LeS (.sl (λ_=>a)) (.sl (λ_=>b)):=⟨by simp[Le,h]⟩
theorem xC {b:List (List D)}(h:b=[]):LeS .nil (.sl (λ_=>b)):=⟨by simp[Le,h]⟩
theorem zR {n m o o' l l':Nat}(h:o=o')(h2:l=l'):LeS (.osl n m (λ_=>o) (λ_=>l)) (.osl n m (λ_=>o') (λ_=>l')):=⟨by simp[Le,h,h2]⟩
theorem zC {a b:List (List D)}(h:a=b):ElsEq (λ_=>a) (λ_=>b):=⟨h⟩
theorem z4 {a b:Bool}(h:a=b):LeS (.bool (λ_=>a)) (.bool (λ_=>b)):=⟨by simp[Le,h]⟩
theorem vW {a b:Bool}(h:b=!a):LeS (.nbool (λ_=>a)) (.bool (λ_=>b)):=⟨by simp[Le,h]⟩
theorem yN {b:Bool}(h:b=true):LeS .tt (.bool (λ_=>b)):=⟨by simp[Le,h]⟩
theorem zO {b:Bool}(h:b=false):LeS .ff (.bool (λ_=>b)):=⟨by simp[Le,h]⟩
def lm (l:List UInt32):List (List D):=l.map λx=>[.int .u32 x.toNat]
abbrev nat (l:List UInt32):PV:=.sl (λ_=>lm l)
theorem zJ (l:List UInt32):(lm l).length=l.length:=by simp[lm]
theorem iO (l:List UInt32):Wid 1 (λ_=>lm l):=⟨λe he=>by simp only[lm,y9] at he;obtain⟨x,_,rfl⟩:=he;rfl⟩
theorem CK {l:List UInt32}{j:Nat}(hj:j<l.length):(lm l)[j]?=some [.int .u32 ((l.getD j 0).toNat:Int)]:=by simp[lm,hj]
theorem xM {l:List UInt32}{k:Int}{K:List PV->Prop}(j:Nat)(hk:k=(j:Int))(hj:j<l.length)(hK:K [.int .u32 (λ_=>((l.getD j 0).toNat:Int))]):IdxOk 1 (λ_=>lm l) (λ_=>k) K :=
 C0 j hk [.int .u32 (λ_=>((l.getD j 0).toNat:Int))] rfl rfl (CK hj) hK
theorem gI {l:List UInt32}{i:Nat}{K:List PV->Prop}(j:Nat)(hk:i=j)(hj:j<l.length)(hK:K [.int .u32 (λ_=>((l.getD j 0).toNat:Int))]):ElOk 1 (λ_=>lm l) (λ_=>i) K :=
 K8 j hk [.int .u32 (λ_=>((l.getD j 0).toNat:Int))] rfl rfl (CK hj) hK
theorem Gi (l:List UInt32)(n:Nat):(lm l).take n=lm (l.take n):=by simp[lm,l7]
theorem Sv (l:List UInt32)(n:Nat):(lm l).drop n=lm (l.drop n):=by simp[lm,Zg]
theorem Fv (l m:List UInt32):lm l++lm m=lm (l++m):=by simp[lm]
theorem om {p:Prop}(h:p:=by (try dsimp only [zS] at *) <;> (try simp only[zJ] at *) <;> omega):p:=h
theorem okA {p:Prop}(h:p:=by repeat' first|exact trivial|exact pC _|exact yN rfl|exact zO rfl|exact xC rfl|apply And.intro):p:=h
theorem okZ {p:Prop}(h:p:=by cbv;repeat' first|exact trivial|exact pC _|exact zC rfl|exact zF om|exact xC rfl|exact zO (by assumption)|exact yN (by assumption)|exact z4 (by assumption)|apply And.intro):p:=h
theorem lR {a:PV}:LeS a a:=pC a
theorem wkY {ps ps':PS}(h:leT ps.tmps ps'.tmps/\leO ps.objs ps'.objs)(hn:ndO ps'.objs=true:=by rfl):Wk ps ps':=.le h.1 h.2 hn
theorem wkZ {ps ps':PS}(h:leT ps.tmps ps'.tmps/\leO ps.objs ps'.objs:=by cbv;repeat' first|exact trivial|exact pC _|exact zC rfl|exact zF om|exact xC rfl|exact zO (by assumption)|exact yN (by assumption)|exact z4 (by assumption)|apply And.intro)(hn:ndO ps'.objs=true:=by rfl):Wk ps ps':=.le h.1 h.2 hn
theorem cA {g as_ dst ps K f caps args' r}(h3:zH f args' r)(h4:K (put ps dst r))(h1:ev (zD ps.tmps) g=.fn f caps:=by exact rfl)(h2:jC les (evs (ev (zD ps.tmps)) as_++caps) args':=by exact okA)(h5:nmIn [] r=true:=by exact rfl):CallOk g as_ dst ps K:=xI h1 h2 h3 h5 h4
theorem sF {f : FuncId} (fn : Func) {args : List PV} {kept eaten : List (Nat × Obj')} {r : PV} {kept' made : List (Nat × Obj')} (hwp : wp (ZT fn) ⟨Vk 0 args, kept ++ eaten⟩ (gT fn.results.toList r kept' made)) (hf : Pg.funcs[f]? = some fn := by rw [vI]; rfl) (hb : fn.body.isSome = true := by exact rfl) (hname : (fn.name == "runtime.NumGoroutine") = false := by exact rfl) (hN : jR fn.ntmps (ZT fn) = true := by exact rfl) (hargs : nle args.length fn.ntmps = true := by exact rfl) (hnk : kept'.map Prod.fst = kept.map Prod.fst := by exact rfl) : Sound f args kept eaten r kept' made := xB hf hb hname hN hargs hnk hwp
theorem rC {rs:List ResultVar}{r:PV}{ps:PS}(h:match dW ps rs with
 |some l=>les (mM l) (ren id r)| none=>False) (h3:lv r=true:=by exact rfl):RetOk rs r [] [] ps:=M0 h3 h
abbrev zM (x:Bool):PV:=.bool (λ_=>x)
abbrev zT (m n x:Nat):PV:=.osl m n (λ_=>0) (λ_=>x)
abbrev zW (n:Nat) (x:List (List D)):Obj':=.arr n (λ_=>x)
theorem ex {α:Sort _}(a:α):∃ x,a=x:=⟨_,rfl⟩
theorem rA {rs:List ResultVar}{r:PV}{ps:PS}(h:match dW ps rs with
 |some l=>les (mM l) (ren id r)| none=>False:=by cbv;exact okA) (h3:lv r=true:=by exact rfl):RetOk rs r [] [] ps:=M0 h3 h
abbrev iV (x:Int):PV:=.int .i64 (λ_=>x)
theorem okY {p:Prop}(h:p:=by cbv;repeat' first|exact trivial|exact pC _|exact zC rfl|exact zF om|exact xC rfl|exact zO (by assumption)|exact yN (by assumption)|exact z4 (by assumption)|exact⟨rfl⟩|apply And.intro):p:=h
theorem okR {p:Prop}(h:p:=by repeat' first|exact trivial|exact rfl|omega|apply And.intro):p:=h
theorem wkW {ps ps':PS}(h:leT ps.tmps ps'.tmps:=by exact okZ)(h':leO ps.objs ps'.objs:=by exact okY)(hn:ndO ps'.objs=true:=by rfl):Wk ps ps':=.le h h' hn
abbrev Lf:Nat->Nat:=λn=>match nqb n 1000005 with|true=>31|false=>n
abbrev Nh:Nat->Nat:=λn=>match nqb n 1000002 with|true=>80|false=>match nqb n 1000004 with|true=>125|false=>n
abbrev Ld:Nat->Nat:=λn=>match nqb n 1000000 with|true=>13|false=>match nqb n 1000001 with|true=>48|false=>match nqb n 1000002 with|true=>26|false=>match nqb n 1000003 with|true=>60|false=>58
abbrev Lc:Nat->Nat:=λn=>match nqb n 1000000 with|true=>13|false=>match nqb n 1000001 with|true=>48|false=>match nqb n 1000002 with|true=>26|false=>match nqb n 1000003 with|true=>60|false=>68
abbrev X7:Nat->Nat:=λn=>match nqb n 1000000 with|true=>13|false=>match nqb n 1000001 with|true=>48|false=>match nqb n 1000002 with|true=>26|false=>match nqb n 1000003 with|true=>60|false=>match nqb n 1000004 with|true=>68|false=>match nqb n 80 with|true=>26|false=>match nqb n 125 with|true=>68|false=>match nqb n 1000006 with|true=>4|false=>n
abbrev Tg:Nat->Nat:=λn=>match nqb n 1000000 with|true=>12|false=>match nqb n 1000001 with|true=>11|false=>match nqb n 1000002 with|true=>7|false=>match nqb n 1000003 with|true=>9|false=>match nqb n 1000004 with|true=>6|false=>match nqb n 1000005 with|true=>46|false=>match nqb n 1000006 with|true=>10|false=>n
abbrev Ng:Nat->Nat:=λn=>match nqb n 1000000 with|true=>10|false=>match nqb n 1000001 with|true=>31|false=>n
end Go.Proofs.YtboocdbmnfjomaaGreat
