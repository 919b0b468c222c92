/- A part of the proof: PmQ, PmR, PnA. -/
import Derived.Test.YtaeaffgjdcigoaaGreatW12
import Derived.Deep.LoopGhost
import Derived.Scope
set_option linter.all false
namespace Go.Proofs.YtaeaffgjdcigoaaGreat
open Go
def jT (N:Nat):Code->Bool
 |.region _ ops _=>ops.toList.all (nB N)| .seq a b=>jT N a&&jT N b| .cond _ a b=>jT N a&&jT N b| .block _ b=>jT N b| .loop b=>jT N b| .scope b=>jT N b| _=>true
theorem Vp:Pg.follows .mixedOrders=true:=by rw[uZ];rfl
section
variable {w0:World} {S0:Nat->Nat->Prop} {K0:Nat->Prop} {N:Cx}
def Lj (w0:World) (S0:Nat->Nat->Prop) (K0:Nat->Prop) (N:Cx) {σ:Type} (inv:σ->PS) (good:σ->Prop) (Q:Exit->PS->Prop):Exit->Act->World->Prop:=λe a w=>match e with
 |.normal=>∃ s S β,good s/\Sim w0 S0 K0 N (zE (inv s).tmps) (inv s).objs a w S β| e=>∃ ps S β,Q e ps/\Sim w0 S0 K0 N (zE ps.tmps) ps.objs a w S β
theorem GJ {σ:Type}{inv:σ->PS}{good:σ->Prop}{Q:Exit->PS->Prop}:∀ e ps' a' w' S' β',Wc inv good Q e ps'->Sim w0 S0 K0 N (zE ps'.tmps) ps'.objs a' w' S' β'->Lj w0 S0 K0 N inv good Q e a' w':=by
 intro e ps' a' w' S' β' hq hs;cases e with
 |normal =>
  obtain⟨s,hg,hw⟩:=hq;obtain⟨S2,β2,h2⟩:=hw.sound hs;exact⟨s,S2,β2,hg,h2⟩
 |exit i=>exact⟨ps',S',β',hq,hs⟩| goto l=>exact⟨ps',S',β',hq,hs⟩| ret=>exact⟨ps',S',β',hq,hs⟩| panic ch=>exact⟨ps',S',β',hq,hs⟩| outgrown=>exact⟨ps',S',β',hq,hs⟩
theorem S5 {σ:Type}{inv:σ->PS}{good:σ->Prop}{Q:Exit->PS->Prop}{QM:Exit->Act->World->Prop}(hk:∀ e ps' a' w' S' β',Q e ps'->Sim w0 S0 K0 N (zE ps'.tmps) ps'.objs a' w' S' β'->QM e a' w') (hJ:∀ s,good s->Q .normal (inv s)):∀ e a w,Lj w0 S0 K0 N inv good Q e a w->QM e a w:=by
 intro e a w h;cases e with
 |normal=>obtain⟨s,S,β,hg,hs⟩:=h;grind
 |exit i=>obtain⟨ps,S,β,hq,hs⟩:=h;grind
 |goto l=>obtain⟨ps,S,β,hq,hs⟩:=h;grind
 |ret=>obtain⟨ps,S,β,hq,hs⟩:=h;grind
 |panic ch=>obtain⟨ps,S,β,hq,hs⟩:=h;grind
 |outgrown=>obtain⟨ps,S,β,hq,hs⟩:=h;grind
theorem Du:∀ (c:Code),jT N c=true->∀ {ps:PS} {Q:Exit->PS->Prop} {a:Act} {w:World} {S:Nat->Nat->Prop} {β:Bm} {QM:Exit->Act->World->Prop},Sim w0 S0 K0 N (zE ps.tmps) ps.objs a w S β->wp c ps Q->(∀ e ps' a' w' S' β',Q e ps'->Sim w0 S0 K0 N (zE ps'.tmps) ps'.objs a' w' S' β'->QM e a' w')->c.wp Pg QM a w:=by
 intro c;induction c with
 |skip=>intro _ ps Q a w S β QM h hs hk;exact wp_skip (hk _ _ _ _ _ _ hs h)| region id ops draw =>
  intro hc ps Q a w S β QM h hs hk;simp only[jT,pA] at hc;cases draw with
  |false =>
   simp only[wp] at hs;refine wp_region_list ?_;have hgo:jE ops.toList ops.toList ps (Q .normal)->_:=λhs=>rR (Q:=QM) (K:=Q .normal) (λps' a' w' S' β' hq hsim=>hk _ _ _ _ _ _ hq hsim) ops.toList hc h hs;split at hs;{rcases hs.h with hs|⟨σ,inv,good,h1,h2⟩;{simp_all};{have:=rR (Q:=QM) (K:=λps'=>∃ s,good s/\Wk ps' (inv s)) (λps' a' w' S' β' hq hsim=>by obtain⟨s,g,k⟩:=hq;obtain⟨S2,β2,h3⟩:=k.sound hsim;grind) ops.toList hc h h1;omega}};simp_all
  |true =>
   simp only[wp] at hs;refine wp_region_any Vp ?_;have:=HK hs (Q:=QM) hc (λps' a' w' S' β' hq hsim=>hk _ _ _ _ _ _ hq hsim) h;simp_all
 |seq x y ihx ihy =>
  intro hc ps Q a w S β QM h hs hk;simp only[jT,yP] at hc;simp only[wp] at hs;refine Go.wp_seq (ihx hc.1 h hs ?_);intro e ps' a' w' S' β' hq hsim;cases e with
  |normal=>exact ihy hc.2 hsim hq hk| exit i=>exact hk _ _ _ _ _ _ hq hsim| goto l=>exact hk _ _ _ _ _ _ hq hsim| ret=>exact hk _ _ _ _ _ _ hq hsim| panic ch=>exact hk _ _ _ _ _ _ hq hsim| outgrown=>exact hk _ _ _ _ _ _ hq hsim
 |cond x y z ihy ihz =>
  intro hc ps Q a w S β QM h hs hk;simp only[jT,yP] at hc;have hr:=h.eval x;simp only[wp] at hs;split at hs;{grind [wp_cond_true,iR]};{grind [wp_cond_false,ZK]};{rename_i b hx;rw[hx] at hr;rcases hs.h with hs|⟨σ,inv,good,hA,hB,hJ⟩;{exact wp_cond_split (sS hr) (λe=>ihy hc.1 h (hs.1 e) hk) (λe=>ihz hc.2 h (hs.2 e) hk)};{exact wp_cond_split (sS hr) (λe=>Code.wp_mono (S5 hk hJ) (ihy hc.1 h (hA e) GJ)) (λe=>Code.wp_mono (S5 hk hJ) (ihz hc.2 h (hB e) GJ))}};{rename_i b hx;rw[hx] at hr;rcases hs.h with hs|⟨σ,inv,good,hA,hB,hJ⟩;{exact wp_cond_split (aZ hr) (λe=>ihy hc.1 h (hs.2 (by grind)) hk) (λe=>ihz hc.2 h (hs.1 (by grind)) hk)};{exact wp_cond_split (aZ hr) (λe=>Code.wp_mono (S5 hk hJ) (ihy hc.1 h (hB (by grind)) GJ)) (λe=>Code.wp_mono (S5 hk hJ) (ihz hc.2 h (hA (by grind)) GJ))}};grind
 |block id b ih =>
  intro hc ps Q a w S β QM h hs hk;simp only[jT] at hc;simp only[wp] at hs;refine Go.wp_block (ih hc h hs ?_);intro e ps' a' w' S' β' hq hsim;cases e with
  |exit i =>
   simp only[Exit.inBlock];cases hb:nqb i id with
   |true =>
    have:=y5 hb;grind
   |false =>
    (have hne:i≠id:=λe=>by simp_all);grind
  |normal=>exact hk _ _ _ _ _ _ hq hsim| goto l=>exact hk _ _ _ _ _ _ hq hsim| ret=>exact hk _ _ _ _ _ _ hq hsim| panic ch=>exact hk _ _ _ _ _ _ hq hsim| outgrown=>exact hk _ _ _ _ _ _ hq hsim
 |exit id=>intro _ ps Q a w S β QM h hs hk;exact wp_exit (hk _ _ _ _ _ _ hs h)| label l=>intro _ ps Q a w S β QM h hs hk;exact wp_label (hk _ _ _ _ _ _ hs h)| scope b ih =>
  intro hc ps Q a w S β QM h hs hk;simp only[jT] at hc;simp only[wp] at hs;refine Go.wp_scope_straight (ih hc h hs ?_);intro e ps' a' w' S' β' hq hsim;cases e with
  |goto l=>grind| normal=>exact hk _ _ _ _ _ _ hq hsim| exit i=>exact hk _ _ _ _ _ _ hq hsim| ret=>exact hk _ _ _ _ _ _ hq hsim| panic ch=>exact hk _ _ _ _ _ _ hq hsim| outgrown=>exact hk _ _ _ _ _ _ hq hsim
 |ret=>intro _ ps Q a w S β QM h hs hk;exact wp_ret (hk _ _ _ _ _ _ hs h)| loop b ih =>
  intro hc ps Q a w S β QM h hs hk;simp only[jT] at hc;simp only[wp] at hs;obtain⟨σ,inv,good,mu,s0,hg,hw,hround⟩:=hs.h;obtain⟨S1,β1,h1⟩:=hw.sound h;refine wp_loop_ghost (λn a w=>∃ s S β,good s/\mu s=n/\Sim w0 S0 K0 N (zE (inv s).tmps) (inv s).objs a w S β) (mu s0) ⟨s0,S1,β1,hg,rfl,h1⟩ ?_;rintro n a' w' ⟨s,S2,β2,hgs,rfl,hsim⟩;refine ih hc hsim (hround s hgs) ?_;intro e ps' a2 w2 S3 β3 hq hsim2;cases e with
  |normal =>
   obtain⟨s',hg',hmu,hwk⟩:=hq;obtain⟨S4,β4,h4⟩:=hwk.sound hsim2;exact⟨mu s',hmu,s',S4,β4,hg',rfl,h4⟩
  |exit i=>exact hk _ _ _ _ _ _ hq hsim2| goto l=>exact hk _ _ _ _ _ _ hq hsim2| ret=>exact hk _ _ _ _ _ _ hq hsim2| panic ch=>exact hk _ _ _ _ _ _ hq hsim2| outgrown=>exact hk _ _ _ _ _ _ hq hsim2
 |_=>intro _ ps Q a w S β QM h hs hk;simp only[wp] at hs
theorem FJ {w:World}{S:Nat->Nat->Prop}{β:Bm}{t:Nat}{cs:List PV}{off:Nat}{pv:PV}(h:rdV (ty t) cs off=some pv){b o:Nat}(vals:Nat->Value) (hc:∀ j,j<cs.length->w.cell? ⟨b,o+j,none⟩=some (vals j)) (hr:∀ j,j<cs.length->Rep w S β (vals j) (cs.getD j .any)):∃ val,(loadVar t ⟨b,o+off,none⟩).run Pg w=.ok val w/\Rep w S β val pv:=by
 have hk:rdK (ty t) cs off (λv=>v=pv):=by unfold rdV at h;unfold rdK;grind
 obtain⟨pv',val,h1,h2,h3⟩:=a9 hk vals hc hr;grind [Instr.loadAt,Instr.sureAddr]
def UY (tmps:Array Value):ResultVar->Sem Value
 |.tmp t=>pure (tmps.getD t undef)| .cell a t=>do loadVar t (<-asAddr (tmps.getD a undef))
theorem Hj (fn:Func)(tmps:Array Value):results fn tmps=(do let vs <-fn.results.mapM (UY tmps);pure (if h:vs.size=1 then vs[0] else .tuple vs)):=by unfold results;congr 2
theorem iQ {ps:PS}{a:Act}{w:World}{S:Nat->Nat->Prop}{β:Bm}(h:Sim w0 S0 K0 N (zE ps.tmps) ps.objs a w S β):∀ (rs:List ResultVar) {l:List PV},bE ps rs=some l ->∃ vs:List Value,(rs.mapM (UY a.tmps):Sem (List Value)).run Pg w=.ok vs w/\RepL w S β vs.toArray l
 |[],l,he=>by simp only[bE,mF] at he;subst he;exact⟨[],rfl,rfl,λj hj=>by grind⟩| .tmp t::r,l,he=>by
  simp only[bE] at he;split at he
  ·rename_i l' hl';simp only[mF] at he;subst he;obtain⟨vs,h1,h2⟩:=iQ h r hl';refine⟨a.tmps.getD t undef::vs,by grind [Sem.run_bind,UY,Sem.run_pure,Result.andThen_ok],by simpa using h2.1,λj hj=>?_⟩;cases j with
   |zero=>simpa using h.tmp t| succ j=>simpa using h2.2 j (by grind)
  grind
 |.cell x t::r,l,he=>by
  simp only[bE] at he;split at he
  ·rename_i n off hx;split at he
   ·rename_i cs ho;split at he
    ·rename_i v l' hv hl';simp only[mF] at he;subst he;obtain⟨vs,h1,h2⟩:=iQ h r hl';have hr:=h.tmp x;rw[hx] at hr;obtain⟨b,hβ,hv'⟩:=kM hr;obtain⟨b',us,T,hβ',hb,hsz,hrr⟩:=U8 h ho;rw[hβ] at hβ';cases hβ';obtain⟨val,h3,h4⟩:=FJ (w:=w) (S:=S) (β:=β) (b:=b) (o:=0) hv (λj=>us.getD j undef) (λj hj=>by rw[jW];grind [cW]) hrr;rw[jW] at h3;refine⟨val::vs,?_,by simpa using h2.1,λj hj=>?_⟩;{grind [UY,Sem.run_bind,asAddr,Sem.run_pure,Result.andThen_ok]}
     ·cases j with
      |zero=>simp_all| succ j=>simpa using h2.2 j (by grind)
    grind
   grind
  grind
theorem Vk {fn:Func}{ps:PS}{a:Act}{w:World}{S:Nat->Nat->Prop}{β:Bm}(h:Sim w0 S0 K0 N (zE ps.tmps) ps.objs a w S β){l:List PV}(hl:bE ps fn.results.toList=some l):∃ v,(results fn a.tmps).run Pg w=.ok v w/\Rep w S β v (lU l):=by
 obtain⟨vs,h1,h2⟩:=iQ h _ hl;refine⟨if h:vs.toArray.size=1 then vs.toArray[0] else .tuple vs.toArray,?_,?_⟩;{rw[Hj,Array.mapM_eq_mapM_toList,Sem.run_bind,Sem.run_map,h1];rfl}
 ·by_cases h3:vs.toArray.size=1
  ·rw[dif_pos h3];have h4:l.length=1:=by rw[<-h2.1];exact h3
   match l,h4 with
   |[x],_ =>
    have:=h2.2 0 (by simp);simp only[lU];simp_all
  ·(rw[dif_neg h3];have h4:l.length≠1:=by rw[<-h2.1];exact h3);have:lU l=.tup l:=by
    match l with
    |[]=>rfl| [x]=>grind| x::y::r=>rfl
   rw[this];exact .tup h2.1 h2.2
theorem Wj {h:Nat->Nat}:∀ {l:List (Nat×Obj')},Wl h l->∀ {n o},(n,o)∈l->h n=n/\1000000<=n
 |(m,x)::r,H,n,o,hm=>by simp only[yG] at hm;rcases hm with hm|hm;{cases hm;exact H.1};{exact Wj H.2 hm}
theorem oU {h:Nat->Nat}:∀ {l:List Nat},(l.map h).Nodup->l.Nodup
 |[],_=>List.nodup_nil| x::r,hnd=>by simp only[jH,Zz] at hnd ⊢;exact⟨λhx=>hnd.1 (yZ.2 ⟨x,hx,rfl⟩),oU hnd.2⟩
def Jx:Nat->List PV->List (Nat×PV)
 |_,[]=>[]| k,v::r=>(k,v)::Jx (k+1) r
theorem V9:∀ (l:List PV) (k t:Nat),zE (Jx k l) t=if k<=t/\t<k+l.length then l.getD (t-k) .any else .any
 |[],k,t=>by simp[Jx,zE]| v::r,k,t=>by simp only[Jx,zE];by_cases h:k=t;{simp_all};{rw[Ht h];simp only[];rw[V9 r (k+1) t];grind}
theorem DK {f : FuncId} {fn : Func} {c : Code} (hf : Pg.funcs[f]? = some fn) (hb : fn.body = some c) (hname : (fn.name == "runtime.NumGoroutine") = false) (hN : jT fn.ntmps c = true) {args : List PV} (hargs : nle args.length fn.ntmps = true) {kept eaten:List (Nat × Obj')} {r:PV} {kept' made:List (Nat × Obj')} (hnk:kept'.map Prod.fst=kept.map Prod.fst) (hwp:wp c ⟨Jx 0 args,kept++eaten⟩ (dU fn.results.toList r kept' made)):Sound f args kept eaten r kept' made where
 isf vals w:=by
  (have hn : ¬ fn.name = "runtime.NumGoroutine" := by grind);simp[callFunc,hf,hn,hb]
 go w S β vals hbnd hobj hsz hrep:=by
  have hal:=mW hargs;refine calls_of_wp hf hb ?_;have hsim:Sim w S (Blk β (kept++eaten)) ⟨fn.ntmps,β⟩ (zE (Jx 0 args)) (kept++eaten) { tmps:=vals++Array.replicate (fn.ntmps-vals.size) undef,defers:=[] } w S β:=by
   refine⟨rfl,by grind,⟨yD _,rfl,rfl,rfl,λ_ _ _=>rfl,λb vs T h=>⟨vs,h,rfl⟩,hbnd,λ_ _ _ h=>h,λ_ _ _ _ h=>h⟩,λt=>?_,hobj,λn o b hm hβ=>.inr ⟨n,o,hm,hβ⟩,λ_ _ _ _=>rfl⟩;rw[V9];by_cases h:t<args.length
   ·(rw[if_pos oM];have h1:=hrep t h;have hlt:t<vals.size:=by omega);simpa[Array.getElem?_append_left hlt] using h1
   {rw[if_neg oM];exact xX _}
  refine Du c hN hsim hwp ?_;have fin:∀ ps' a' w' S' β',RetOk fn.results.toList r kept' made ps'->Sim w S (Blk β (kept++eaten)) ⟨fn.ntmps,β⟩ (zE ps'.tmps) ps'.objs a' w' S' β' ->
    a'.defers=[]/\∃ v,(results fn a'.tmps).run Pg w'=.ok v w'/\(∃ v' S' β',Ending.returned v=.returned v'/\Leads w S (Blk β (kept++eaten)) w' S'/\Rep w' S' β' v' r/\ObjsAt w' S' β' (kept'++made) /\
   (kept'.map Prod.fst=kept.map Prod.fst)/\(∀ n o,(n,o)∈kept->β' n=β n) /\
   (∀ n o b,(n,o)∈kept'++made->Own β' n o b->w.heap.size<=b\/Blk β (kept++eaten) b)):=by
   intro ps1 a' w' S1 β1 hr h1;obtain⟨ps',l,hn,hw,hl,hle,hlv,hobjs,hnd,hkid⟩:=hr.h;obtain⟨S2,β2,h2⟩:=hw.sound h1;obtain⟨v,h3,h4⟩:=Vk h2 hl;have hmem:∀ {n o},(n,o)∈kept'++made->(hn n,wC (ren hn) o)∈ps'.objs/\bF o=true:=λhm=>m9 hobjs hm;have hndn:=fG hnd;have fstH:∀ {n o},(n,o)∈kept'++made->∀ {m o'},(m,o')∈kept'++made->hn n=hn m->n=m:=λhm _ _ hm' he=>n6 hndn hm hm' he;refine⟨h2.dfr,v,h3,v,S2,β2.ren hn,rfl,h2.ld,U1 (h4.le _ hle) hlv,⟨?_,λn o hm=>GD (hmem hm).2 (h2.obj.at_ _ _ (hmem hm).1),λn o b hm hβ=>?_,
    λn o m o' b hm hm' hβ hβ'=>fstH hm hm' (h2.obj.inj _ _ _ _ b (hmem hm).1 (hmem hm').1 (rQ.1 hβ) (rQ.1 hβ'))⟩,hnk,λn o hm=>?_,λn o b hm hβ=>h2.own _ _ b (hmem hm).1 (rQ.1 hβ)⟩
   {rw[dW] at hndn;exact oU hndn};{obtain⟨h5,h6⟩:=h2.obj.un _ _ b (hmem hm).1 (rQ.1 hβ);grind [VW]};{obtain⟨o',hm'⟩:=YZ hnk.symm hm;obtain⟨e1,e2⟩:=Wj hkid hm';have:=h2.keep n _ (by have:=(hmem (Ut made hm')).1;rwa [e1] at this) e2;show β2 (hn n)=β n;grind}
  intro e ps' a' w' S' β' hq hs';cases e with
  |normal=>exact fin _ _ _ _ _ hq hs'| ret=>exact fin _ _ _ _ _ hq hs'| exit i=>exact hq.elim| goto l=>exact hq.elim| panic ch=>exact hq.elim| outgrown=>exact hq.elim
end
def Yb (f:Func):Code:=f.body.getD .skip
theorem sI {f : FuncId} {fn : Func} (hf : Pg.funcs[f]? = some fn) (hb : fn.body.isSome = true) (hname : (fn.name == "runtime.NumGoroutine") = false) (hN : jT fn.ntmps (Yb fn) = true) {args : List PV} (hargs : nle args.length fn.ntmps = true) {kept eaten:List (Nat × Obj')} {r:PV} {kept' made:List (Nat × Obj')} (hnk:kept'.map Prod.fst=kept.map Prod.fst) (hwp:wp (Yb fn) ⟨Jx 0 args,kept++eaten⟩ (dU fn.results.toList r kept' made)):Sound f args kept eaten r kept' made:=by
 obtain⟨c,hc⟩:=JI.1 hb;have:Yb fn=c:=by simp[Yb,hc]
 rw[this] at hN hwp;exact DK hf hc hname hN hargs hnk hwp
theorem yJ {g as_ dst ps K f caps args' r}(h1:ev (zE ps.tmps) g=.fn f caps)(h2:jG les (evs (ev (zE ps.tmps)) as_++caps) args')(h3:zC f args' r)(h5:nmIn [] r=true)(h4:K (put ps dst r)):CallOk g as_ dst ps K :=
 ⟨ps,.refl ps,f,caps,h1,.inl ⟨args',r,lF h2,h3,h5,h4⟩⟩
theorem gJ {rs:List ResultVar}{r:PV}{ps:PS}{l:List PV}(h1:bE ps rs=some l)(h2:les (lU l) (ren id r))(h3:lv r=true):RetOk rs r [] [] ps :=
 ⟨ps,l,id,.refl ps,h1,bY h2,h3,trivial,rfl,trivial⟩
theorem NN {rs:List ResultVar}{r:PV}{ps:PS}(h3:lv r=true)(h:match bE ps rs with
  |some l=>les (lU l) (ren id r)| none=>False):RetOk rs r [] [] ps:=by
 cases h1:bE ps rs with
 |none=>rw[h1] at h;exact h.elim| some l=>rw[h1] at h;exact gJ h1 h h3
theorem z7 {B:PS->(Exit->PS->Prop)->Prop}{ps:PS}{Q:Exit->PS->Prop}{σ:Type}(inv:σ->PS)(good:σ->Prop)(mu:σ->Nat)(s0:σ)(h0:good s0)(hw:Wk ps (inv s0)) (hr:∀ s,good s->B (inv s) (λe ps'=>match e with
   |.normal=>∃ s',good s'/\mu s'<mu s/\Wk ps' (inv s')| e=>Q e ps')):LoopOk B ps Q:=⟨⟨σ,inv,good,mu,s0,h0,hw,hr⟩⟩
theorem TG (v:PV):rn0 id v=v:=by cases v <;> rfl
theorem YU {f:PV->PV}(h:∀ v,f v=v):∀ (l:List PV),w5 f l=l
 |[]=>rfl| v::r=>by simp only[w5,h v,YU h r]
theorem TE (v:PV):rn1 id v=v:=by cases v <;> simp only[rn1,rn0,YU TG,id]
theorem Cu (v:PV):ren id v=v:=by cases v <;> simp only[ren,rn0,YU TE,id]
theorem GL {f:PV->PV}(h:∀ v,f v=v):∀ (l:List (PV×(Unit->Nat))),s7 f l=l
 |[]=>rfl| (v,k)::r=>by simp only[s7,h v,GL h r]
theorem Wd (o:Obj'):wC (ren id) o=o:=by cases o <;> simp only[wC,YU Cu,GL Cu]
theorem TK {rs:List ResultVar}{r:PV}{ps ps':PS}{l:List PV}(hw:Wk ps ps')(h1:bE ps' rs=some l)(h2:les (lU l) (ren id r))(h3:lv r=true):RetOk rs r [] [] ps :=
 ⟨ps',l,id,hw,h1,bY h2,h3,trivial,rfl,trivial⟩
theorem qR {g as_ dst ps ps' K f caps args' r}(hw:Wk ps ps')(h1:ev (zE ps'.tmps) g=.fn f caps)(h2:jG les (evs (ev (zE ps'.tmps)) as_++caps) args')(h3:zC f args' r)(h5:nmIn [] r=true)(h4:K (put ps' dst r)):CallOk g as_ dst ps K :=
 ⟨ps',hw,f,caps,h1,.inl ⟨args',r,lF h2,h3,h5,h4⟩⟩
theorem eF {n:Nat}{els:List (List PV)}{d:Nat}{ps:PS}{K:PS->Prop}(h:K (put ps (some d) (Sf els))):BldK n els d ps K:=⟨.inl h⟩
theorem RD {n:Nat}{els:List (List PV)}{d:Nat}{ps:PS}{K:PS->Prop}(hf:yQ d ps=true)(h:K ⟨uA ps.tmps d (.osl d n (λ_=>0) (λ_=>(zW els).length)),ps.objs++[(d,.arr n (λ_=>zW els))]⟩):BldK n els d ps K:=⟨.inr ⟨hf,h⟩⟩
theorem Jy {t base x d ps K n b z xs}(ht:ty t=.sli n b z){m o len els}(hb:ev (zE ps.tmps) base=.osl m n o len)(ho:yN ps.objs m=some (.arr n els))(ho0:o ()=0)(hl:len ()=(els ()).length){m' o' len'}(hx:ev (zE ps.tmps) x=.osl m' n o' len')(hm:yN ps.objs m'=some (.arr n xs))(h0:o' ()=0)(hl':len' ()=(xs ()).length)(hw:Wid n xs) (hr:Room (λ_=>(((els ()).length+(xs ()).length:Nat):Int)) b) (hf:yQ d ⟨vZ (scr m) ps.tmps,xL (scr m) (v8 ps.objs m)⟩=true) (hK:K ⟨uA (vZ (scr m) ps.tmps) d (.osl d n (λ_=>0) (λ_=>(els ()).length+(xs ()).length)),xL (scr m) (v8 ps.objs m)++[(d,.arr n (λ_=>els ()++xs ()))]⟩):AppK t base x (some d) ps K :=
 ⟨.inl ⟨ps,d,d,n,b,z,xs,.refl ps,rfl,ht,.inr ⟨false,m',o',len',xs,hx,hm,by omega,by rw[h0,hl'];simp⟩,hw,.inr ⟨false,m,o,len,els,els,hb,ho,ho0,hl,by rw[hl];simp,λ_=>rfl,hr,hf,hK⟩⟩⟩
theorem wM {t base x d ps K n b z xs}(ht:ty t=.sli n b z){m o len els}(hb:ev (zE ps.tmps) base=.osl m n o len)(ho:yN ps.objs m=some (.arr n els))(ho0:o ()=0)(hl:len ()=(els ()).length)(hx:ev (zE ps.tmps) x=.sl xs)(hw:Wid n xs) (hr:Room (λ_=>(((els ()).length+(xs ()).length:Nat):Int)) b) (hf:yQ d ⟨vZ (scr m) ps.tmps,xL (scr m) (v8 ps.objs m)⟩=true) (hK:K ⟨uA (vZ (scr m) ps.tmps) d (.osl d n (λ_=>0) (λ_=>(els ()).length+(xs ()).length)),xL (scr m) (v8 ps.objs m)++[(d,.arr n (λ_=>els ()++xs ()))]⟩):AppK t base x (some d) ps K :=
 ⟨.inl ⟨ps,d,d,n,b,z,xs,.refl ps,rfl,ht,.inl (.inl hx),hw,.inr ⟨false,m,o,len,els,els,hb,ho,ho0,hl,by rw[hl];simp,λ_=>rfl,hr,hf,hK⟩⟩⟩
theorem QR {t base x d ps K n b z xs}(ht:ty t=.sli n b z){m o len els}(hb:ev (zE ps.tmps) base=.osl m n o len)(ho:yN ps.objs m=some (.log n els))(ho0:o ()=0)(hl:len ()=(els ()).length)(hx:ev (zE ps.tmps) x=.sl xs)(hw:Wid n xs) (hr:Room (λ_=>(((els ()).length+(xs ()).length:Nat):Int)) b) (hf:yQ d ⟨vZ (scr m) ps.tmps,xL (scr m) (v8 ps.objs m)⟩=true) (hK:K ⟨uA (vZ (scr m) ps.tmps) d (.osl d n (λ_=>0) (λ_=>(els ()).length+(xs ()).length)),xL (scr m) (v8 ps.objs m)++[(d,.log n (λ_=>els ()++xs ()))]⟩):AppK t base x (some d) ps K :=
 ⟨.inl ⟨ps,d,d,n,b,z,xs,.refl ps,rfl,ht,.inl (.inl hx),hw,.inr ⟨true,m,o,len,els,els,hb,ho,ho0,hl,by rw[hl];simp,λ_=>rfl,hr,hf,hK⟩⟩⟩
theorem jU {t base x d ps K n b z xs}(ht:ty t=.sli n b z){m o len els}(hb:ev (zE ps.tmps) base=.osl m n o len)(ho:yN ps.objs m=some (.arr n els))(ho0:o ()=0)(hl:len ()=(els ()).length)(hx:ev (zE ps.tmps) x=.sl xs)(hw:Wid n xs) (hr:Room (λ_=>(((els ()).length+(xs ()).length:Nat):Int)) b) (hf:yQ m ⟨vZ (scr m) ps.tmps,xL (scr m) (v8 ps.objs m)⟩=true) (hK:K ⟨uA (vZ (scr m) ps.tmps) d (.osl m n (λ_=>0) (λ_=>(els ()).length+(xs ()).length)),xL (scr m) (v8 ps.objs m)++[(m,.arr n (λ_=>els ()++xs ()))]⟩):AppK t base x (some d) ps K :=
 ⟨.inl ⟨ps,d,m,n,b,z,xs,.refl ps,rfl,ht,.inl (.inl hx),hw,.inr ⟨false,m,o,len,els,els,hb,ho,ho0,hl,by rw[hl];simp,λ_=>rfl,hr,hf,hK⟩⟩⟩
theorem nH {t base x d ps K n b z xs}(ht:ty t=.sli n b z){m o len els}(hb:ev (zE ps.tmps) base=.osl m n o len)(ho:yN ps.objs m=some (.log n els))(ho0:o ()=0)(hl:len ()=(els ()).length)(hx:ev (zE ps.tmps) x=.sl xs)(hw:Wid n xs) (hr:Room (λ_=>(((els ()).length+(xs ()).length:Nat):Int)) b) (hf:yQ m ⟨vZ (scr m) ps.tmps,xL (scr m) (v8 ps.objs m)⟩=true) (hK:K ⟨uA (vZ (scr m) ps.tmps) d (.osl m n (λ_=>0) (λ_=>(els ()).length+(xs ()).length)),xL (scr m) (v8 ps.objs m)++[(m,.log n (λ_=>els ()++xs ()))]⟩):AppK t base x (some d) ps K :=
 ⟨.inl ⟨ps,d,m,n,b,z,xs,.refl ps,rfl,ht,.inl (.inl hx),hw,.inr ⟨true,m,o,len,els,els,hb,ho,ho0,hl,by rw[hl];simp,λ_=>rfl,hr,hf,hK⟩⟩⟩
theorem GU {objs:List (Nat×Obj')}{v:PV}{K:PV->Prop}(h:K v):LdK objs v K:=⟨.inl h⟩
theorem pG {objs:List (Nat×Obj')}{v:PV}{K:PV->Prop}(n:Nat){s:Nat}{els:Unit->List (List D)}(h1:yN objs n=some (.lent s els))(h2:fo n (.lent s els) v)(h3:K (frz n (.lent s els) v)):LdK objs v K:=⟨.inr ⟨n,s,els,h1,h2,h3⟩⟩
theorem Hk {ops:List Oper}{ps:PS}{K:PS->Prop}(h:jE ops ops ps K):RegK ops ps K:=⟨.inl h⟩
theorem Ks {ops:List Oper}{ps:PS}{K:PS->Prop}{σ:Type}(inv:σ->PS)(good:σ->Prop)(h1:jE ops ops ps (λps'=>∃ s,good s/\Wk ps' (inv s)))(h2:∀ s,good s->K (inv s)):RegK ops ps K:=⟨.inr ⟨σ,inv,good,h1,h2⟩⟩
theorem zZ {i len:Nat}{els:List (List D)}(h:i+len<=els.length):FrOk (λ_=>i) (λ_=>len) (λ_=>els):=⟨h⟩
theorem zM {ops:List Oper}{ps:PS}{K:PS->Prop}(k:Nat)(hd:b9 ops k=true)(h:Zl ops [] (yI (ops.take k)) ps.objs (ops.take k) 0 ps.tmps ps.objs (λT O=>Yu (yI (ops.take k)) T (jE ops (ops.drop k) ⟨T,O⟩ K)))(hm:(ndO (yI (ops.take k))&&Vn ps (yI (ops.take k)))=true:=by cbv):DrawK ops ps K:=.ef k [] ps (.refl ps) hd rfl hm h
theorem BW {ops:List Oper}{ps ps':PS}{K:PS->Prop}(k:Nat)(hw:Wk ps ps')(hd:b9 ops k=true)(h:Zl ops [] (yI (ops.take k)) ps'.objs (ops.take k) 0 ps'.tmps ps'.objs (λT O=>Yu (yI (ops.take k)) T (jE ops (ops.drop k) ⟨T,O⟩ K)))(hm:(ndO (yI (ops.take k))&&Vn ps' (yI (ops.take k)))=true:=by cbv):DrawK ops ps K:=.ef k [] ps' hw hd rfl hm h
theorem qV {ops:List Oper}{ps:PS}{K:PS->Prop}(k:Nat)(hd:b9 ops k=true)(hm:(ndO (yI (ops.take k))&&Vn ps (yI (ops.take k)))=true) (h:Zl ops [] (yI (ops.take k)) ps.objs (ops.take k) 0 ps.tmps ps.objs (λT O=>Yu (yI (ops.take k)) T (jE ops (ops.drop k) ⟨T,O⟩ K))):DrawK ops ps K:=.ef k [] ps (.refl ps) hd rfl hm h
theorem vP {ops:List Oper}{ps:PS}{K:PS->Prop}(k:Nat)(es:List (Nat×Nat))(hd:b9 ops k=true)(he:Mv ops k es=true)(hm:(ndO (yI (ops.take k))&&Vn ps (yI (ops.take k)))=true) (h:Zl ops es (yI (ops.take k)) (gI (qY es) ps.objs) (ops.take k) 0 ps.tmps ps.objs (λT O=>Yu (yI (ops.take k)) T (jE ops (ops.drop k) ⟨T,O⟩ K))):DrawK ops ps K:=.ef k es ps (.refl ps) hd he hm h
theorem Rp {ops:List Oper}{ps:PS}{K:PS->Prop}(k:Nat)(es:List (Nat×Nat))(hd:b9 ops k=true)(he:RI k es=true) (h:Vt ops es (anc ops) (gI (qY es) ps.objs) (ops.take k) 0 ps.tmps ps.objs (λT O=>jE ops (ops.drop k) ⟨aV (qY es) T,xL (scC (qY es)) O⟩ K)):DrawK ops ps K:=.ap k es ps (.refl ps) hd he h
theorem BX {ops:List Oper}{ps ps':PS}{K:PS->Prop}(k:Nat)(es:List (Nat×Nat))(hw:Wk ps ps')(hd:b9 ops k=true)(he:RI k es=true) (h:Vt ops es (anc ops) (gI (qY es) ps'.objs) (ops.take k) 0 ps'.tmps ps'.objs (λT O=>jE ops (ops.drop k) ⟨aV (qY es) T,xL (scC (qY es)) O⟩ K)):DrawK ops ps K:=.ap k es ps' hw hd he h
theorem aX {ops:List Oper}{ps ps':PS}{K:PS->Prop}{σ:Type}(inv:σ->PS)(good:σ->Prop)(hw:Wk ps ps')(hsel:Region.noSelect ops.toArray=true)(h:WU ops ops.length (List.replicate ops.length false) ps' (λq=>∃ s,good s/\Wk q (inv s)))(h2:∀ s,good s->K (inv s)):DrawK ops ps K:=.br σ inv good ps' hw hsel h h2
theorem Fa {t:TypeId}{x:Operand}{T:List (Nat×PV)}{n s b:Nat}{z:List PV}{xs els:Unit->List (List D)}{o' len:Unit->Nat}{K:PV->Obj'->Prop}(h1:ty t=.sli s b z)(h2:ev (zE T) x=.sl xs)(h3:Wid s xs)(h4:o' ()=0)(h5:len ()=(els ()).length) (h6:Room (λ_=>(((els ()).length+(xs ()).length:Nat):Int)) b) (hK:K (.osl n s (λ_=>0) (λ_=>(els ()).length+(xs ()).length)) (.arr s (λ_=>els ()++xs ()))):EffA t x (.osl n s o' len) T (some (.arr s els)) n K :=
 ⟨s,b,z,xs,false,els,h1,.inl h2,h3,rfl,.inl ⟨o',len,rfl,h4,h5,h6,hK⟩⟩
theorem WB {t:TypeId}{x:Operand}{T:List (Nat×PV)}{n s b:Nat}{z:List PV}{xs els:Unit->List (List D)}{K:PV->Obj'->Prop}(h1:ty t=.sli s b z)(h2:ev (zE T) x=.sl xs)(h3:Wid s xs) (h6:Room (λ_=>((xs ()).length:Nat)) b) (hK:K (.osl n s (λ_=>0) (λ_=>(xs ()).length)) (.arr s xs)):EffA t x .emp T (some (.arr s els)) n K :=
 ⟨s,b,z,xs,false,els,h1,.inl h2,h3,rfl,.inr ⟨rfl,h6,hK⟩⟩
theorem WA {g:Operand}{as_:List Operand}{T:List (Nat×PV)}{n:Nat}{K:PV->Obj'->Prop}{f:FuncId}{caps cargs:List PV}{m:Nat}{x x':Obj'}{r:PV}(hn:Nat->Nat) (h1:ev (zE T) g=.fn f caps) (h2:jG les (evs (ev (zE T)) as_++caps) (oP hn cargs)) (h3:Sound f cargs [(m,x)] [] r [(m,x')] []) (h4:hn m=n) (h6:tS x=true) (h7:tS x'=true) (h9:yT lv cargs=true) (h10:lv r=true) (h11:nmIn [m] r=true) (h12:K (ren hn r) x'):Eff1 g as_ T (some x) n K:=⟨f,caps,hn,cargs,m,x,r,x',h1,lF h2,h3,h4,rfl,h6,h7,h9,h10,h11,h12⟩
theorem gZ (z:Int):nx .u32 z=z%4294967296:=by unfold nx;simp[IntKind.wrap,IntKind.signed,IntKind.bits]
theorem uN (z:Int):nx .u64 z=z%18446744073709551616:=by unfold nx;simp[IntKind.wrap,IntKind.signed,IntKind.bits]
theorem zV (n:Nat):@NatCast.natCast Int instNatCastInt n=((n:Nat):Int):=rfl
theorem zQ {p:Prop}[Decidable p]{A B:Unit->Prop}(h1:p->A ())(h2:¬p->B ()):Br (λ_=>decide p) A B:=⟨λh=>h1 (of_decide_eq_true h),λh=>h2 (of_decide_eq_false h)⟩
theorem yB {b:Bool}{A B:Unit->Prop}(h1:b=true->A ())(h2:b=false->B ()):Br (λ_=>b) A B:=⟨h1,h2⟩
theorem zF {p:Prop}[Decidable p]{A B:(Exit->PS->Prop)->Prop}{Q:Exit->PS->Prop}(h1:p->A Q)(h2:¬p->B Q):Cut (λ_=>decide p) A B Q:=⟨.inl ⟨λh=>h1 (of_decide_eq_true h),λh=>h2 (of_decide_eq_false h)⟩⟩
theorem zO {b:Bool}{A B:(Exit->PS->Prop)->Prop}{Q:Exit->PS->Prop}(h1:b=true->A Q)(h2:b=false->B Q):Cut (λ_=>b) A B Q:=⟨.inl ⟨h1,h2⟩⟩
theorem kU {p:Prop}[Decidable p]{A B:(Exit->PS->Prop)->Prop}{Q:Exit->PS->Prop}{σ:Type}(inv:σ->PS)(good:σ->Prop) (h1:p->A (Wc inv good Q)) (h2:¬p->B (Wc inv good Q)) (h3:∀ s,good s->Q .normal (inv s)):Cut (λ_=>decide p) A B Q :=
 ⟨.inr ⟨σ,inv,good,λh=>h1 (of_decide_eq_true h),λh=>h2 (of_decide_eq_false h),h3⟩⟩
theorem lJ {b:Bool}{A B:(Exit->PS->Prop)->Prop}{Q:Exit->PS->Prop}{σ:Type}(inv:σ->PS)(good:σ->Prop) (h1:b=true->A (Wc inv good Q)) (h2:b=false->B (Wc inv good Q)) (h3:∀ s,good s->Q .normal (inv s)):Cut (λ_=>b) A B Q :=
 ⟨.inr ⟨σ,inv,good,h1,h2,h3⟩⟩
theorem zD {z:Int}(h1:-9223372036854775808<=z)(h2:z<=9223372036854775807):InI64 (λ_=>z):=⟨h1,h2⟩
theorem uH {z:Int}(h:0<=z):Nn (λ_=>z):=⟨h⟩
theorem wG {z:Int}(h:z≠0):Nz (λ_=>z):=⟨h⟩
theorem xI {k:Int}{n:Nat}(h1:0<=k)(h2:k<(n:Int)):Rng (λ_=>k) (λ_=>n):=⟨h1,h2⟩
theorem vF {l h:Int}{n:Nat}(h1:0<=l)(h2:l<=h)(h3:h<=(n:Int)):SlOk (λ_=>l) (λ_=>h) (λ_=>n):=⟨h1,h2,h3⟩
theorem JW {l h:Int}{A B:Prop}(h1:l<h)(hA:A):SlT (λ_=>l) (λ_=>h) A B:=⟨.inl ⟨.inl h1,hA⟩⟩
theorem Y7 {t base x d ps K n b z xs}(ht:ty t=.sli n b z){m:Nat}{o len:Unit->Nat}{els:Unit->List (List D)}(hb:ev (zE ps.tmps) base=.osl m n o len)(ho:yN ps.objs m=some (.arr n els))(ho0:o ()=0)(hl:len ()<=(els ()).length)(hx:ev (zE ps.tmps) x=.sl xs/\xs ()=[]\/∃ (o' len':Unit->Nat),ev (zE ps.tmps) x=.osl m n o' len'/\o' ()+len' ()<=(els ()).length/\xs ()=((els ()).drop (o' ())).take (len' ()))(hw:Wid n xs) (hr:Room (λ_=>((len ()+(xs ()).length:Nat):Int)) b) (hf:yQ m ⟨vZ (scr m) ps.tmps,xL (scr m) (v8 ps.objs m)⟩=true) (hK:K ⟨uA (vZ (scr m) ps.tmps) d (.osl m n (λ_=>0) (λ_=>len ()+(xs ()).length)),xL (scr m) (v8 ps.objs m)++[(m,.arr n (λ_=>(els ()).take (len ())++xs ()))]⟩):AppK t base x (some d) ps K:=by
 have e:((els ()).take (len ())).length=len ():=by rw[kX];omega
 refine⟨.inl ⟨ps,d,m,n,b,z,xs,.refl ps,rfl,ht,hx.imp (λh=>.inl h.1) (λ⟨o',len',h1,h2,h3⟩=>⟨false,m,o',len',els,h1,ho,h2,h3⟩),hw,.inr ⟨false,m,o,len,λ_=>(els ()).take (len ()),els,hb,ho,ho0,e.symm,rfl,(λh=>nomatch h),?_,hf,?_⟩⟩⟩;{simpa only [e] using hr};{simp only[e];exact hK}
theorem z8 {n:Int}{b:Nat}(h1:0<=n)(h2:n*(b:Int)<=70368744177664):Room (λ_=>n) b:=⟨h1,h2⟩
theorem gU {x y:Int}(h1:0<=x)(h2:x<=y):MkOk (λ_=>x) (λ_=>y):=⟨h1,h2⟩
theorem Bh {n:Nat}{els:List (List D)}{k:Int}{K:List PV->Prop}(j:Nat)(hk:k=(j:Int))(c:List PV)(hf:yT qO c=true)(hn:c.length=n)(he:els[j]?=some (xT c))(hK:K c):IdxOk n (λ_=>els) (λ_=>k) K :=
 ⟨⟨by simp only[hk];omega,c,hf,hn,by simp only[hk,Zv];exact he,hK⟩⟩
theorem Pi {n:Nat}{els:List (List D)}{i:Nat}{K:List PV->Prop}(j:Nat)(hk:i=j)(c:List PV)(hf:yT qO c=true)(hn:c.length=n)(he:els[j]?=some (xT c))(hK:K c):ElOk n (λ_=>els) (λ_=>i) K :=
 ⟨⟨c,hf,hn,by simp only[hk];exact he,hK⟩⟩
theorem m0 (a:PV):LeS a a:=⟨Le.refl a⟩
theorem zB {k:IntKind}{a b:Int}(h:a=b):LeS (.int k (λ_=>a)) (.int k (λ_=>b)):=⟨by simp[Le,h]⟩
theorem zR {a b:List (List D)}(h:a=b):LeS (.sl (λ_=>a)) (.sl (λ_=>b)):=⟨by simp[Le,h]⟩
theorem yM {b:List (List D)}(h:b=[]):LeS .nil (.sl (λ_=>b)):=⟨by simp[Le,h]⟩
theorem zT {n m o o' l l':Nat}(h:o=o')(h2:l=l'):LeS (.osl n m (λ_=>o) (λ_=>l)) (.osl n m (λ_=>o') (λ_=>l')):=⟨by simp[Le,h,h2]⟩
theorem zG {a b:List (List D)}(h:a=b):ElsEq (λ_=>a) (λ_=>b):=⟨h⟩
theorem zX {a b:Bool}(h:a=b):LeS (.bool (λ_=>a)) (.bool (λ_=>b)):=⟨by simp[Le,h]⟩
theorem yY {a b:Bool}(h:b=!a):LeS (.nbool (λ_=>a)) (.bool (λ_=>b)):=⟨by simp[Le,h]⟩
theorem yV {b:Bool}(h:b=true):LeS .tt (.bool (λ_=>b)):=⟨by simp[Le,h]⟩
theorem zK {b:Bool}(h:b=false):LeS .ff (.bool (λ_=>b)):=⟨by simp[Le,h]⟩
def lm (l:List UInt32):List (List D):=l.map λx=>[.int .u32 x.toNat]
abbrev nat (l:List UInt32):PV:=.sl (λ_=>lm l)
theorem zH (l:List UInt32):(lm l).length=l.length:=by simp[lm]
theorem iY (l:List UInt32):Wid 1 (λ_=>lm l):=⟨λe he=>by simp only[lm,yZ] at he;obtain⟨x,_,rfl⟩:=he;rfl⟩
theorem C3 {l:List UInt32}{j:Nat}(hj:j<l.length):(lm l)[j]?=some [.int .u32 ((l.getD j 0).toNat:Int)]:=by simp[lm,hj]
theorem xJ {l:List UInt32}{k:Int}{K:List PV->Prop}(j:Nat)(hk:k=(j:Int))(hj:j<l.length)(hK:K [.int .u32 (λ_=>((l.getD j 0).toNat:Int))]):IdxOk 1 (λ_=>lm l) (λ_=>k) K :=
 Bh j hk [.int .u32 (λ_=>((l.getD j 0).toNat:Int))] rfl rfl (C3 hj) hK
theorem gM {l:List UInt32}{i:Nat}{K:List PV->Prop}(j:Nat)(hk:i=j)(hj:j<l.length)(hK:K [.int .u32 (λ_=>((l.getD j 0).toNat:Int))]):ElOk 1 (λ_=>lm l) (λ_=>i) K :=
 Pi j hk [.int .u32 (λ_=>((l.getD j 0).toNat:Int))] rfl rfl (C3 hj) hK
theorem GP (l:List UInt32)(n:Nat):(lm l).take n=lm (l.take n):=by simp[lm,Zu]
theorem S8 (l:List UInt32)(n:Nat):(lm l).drop n=lm (l.drop n):=by simp[lm,JD]
theorem FP (l m:List UInt32):lm l++lm m=lm (l++m):=by simp[lm]
theorem om {p:Prop}(h:p:=by (try dsimp only [zV] at *) <;> (try simp only[zH] at *) <;> omega):p:=h
theorem okA {p:Prop}(h:p:=by repeat' first|exact trivial|exact m0 _|exact yV rfl|exact zK rfl|exact yM rfl|apply And.intro):p:=h
theorem okZ {p:Prop}(h:p:=by cbv;repeat' first|exact trivial|exact m0 _|exact zG rfl|exact zB om|exact yM rfl|exact zK (by assumption)|exact yV (by assumption)|exact zX (by assumption)|apply And.intro):p:=h
theorem lR {a:PV}:LeS a a:=m0 a
theorem wkY {ps ps':PS}(h:leT ps.tmps ps'.tmps/\leO ps.objs ps'.objs)(hn:ndO ps'.objs=true:=by rfl):Wk ps ps':=.le h.1 h.2 hn
theorem wkZ {ps ps':PS}(h:leT ps.tmps ps'.tmps/\leO ps.objs ps'.objs:=by cbv;repeat' first|exact trivial|exact m0 _|exact zG rfl|exact zB om|exact yM rfl|exact zK (by assumption)|exact yV (by assumption)|exact zX (by assumption)|apply And.intro)(hn:ndO ps'.objs=true:=by rfl):Wk ps ps':=.le h.1 h.2 hn
theorem cA {g as_ dst ps K f caps args' r}(h3:zC f args' r)(h4:K (put ps dst r))(h1:ev (zE ps.tmps) g=.fn f caps:=by exact rfl)(h2:jG les (evs (ev (zE ps.tmps)) as_++caps) args':=by exact okA)(h5:nmIn [] r=true:=by exact rfl):CallOk g as_ dst ps K:=yJ h1 h2 h3 h5 h4
theorem sF {f : FuncId} (fn : Func) {args : List PV} {kept eaten : List (Nat × Obj')} {r : PV} {kept' made : List (Nat × Obj')} (hwp : wp (Yb fn) ⟨Jx 0 args, kept ++ eaten⟩ (dU fn.results.toList r kept' made)) (hf : Pg.funcs[f]? = some fn := by rw [uZ]; rfl) (hb : fn.body.isSome = true := by exact rfl) (hname : (fn.name == "runtime.NumGoroutine") = false := by exact rfl) (hN : jT fn.ntmps (Yb fn) = true := by exact rfl) (hargs : nle args.length fn.ntmps = true := by exact rfl) (hnk : kept'.map Prod.fst = kept.map Prod.fst := by exact rfl) : Sound f args kept eaten r kept' made := sI hf hb hname hN hargs hnk hwp
theorem rC {rs:List ResultVar}{r:PV}{ps:PS}(h:match bE ps rs with
 |some l=>les (lU l) (ren id r)| none=>False) (h3:lv r=true:=by exact rfl):RetOk rs r [] [] ps:=NN h3 h
abbrev zL (x:Bool):PV:=.bool (λ_=>x)
abbrev yX (m n x:Nat):PV:=.osl m n (λ_=>0) (λ_=>x)
abbrev xF (n:Nat) (x:List (List D)):Obj':=.arr n (λ_=>x)
theorem ex {α:Sort _}(a:α):∃ x,a=x:=⟨_,rfl⟩
theorem rA {rs:List ResultVar}{r:PV}{ps:PS}(h:match bE ps rs with
 |some l=>les (lU l) (ren id r)| none=>False:=by cbv;exact okA) (h3:lv r=true:=by exact rfl):RetOk rs r [] [] ps:=NN h3 h
abbrev iV (x:Int):PV:=.int .i64 (λ_=>x)
theorem okR {p:Prop}(h:p:=by repeat' first|exact trivial|exact rfl|omega|apply And.intro):p:=h
abbrev N5:Nat->Nat:=λn=>match nqb n 1000000 with|true=>11|false=>101
abbrev N4:Nat->Nat:=λn=>match nqb n 1000000 with|true=>12|false=>102
end Go.Proofs.YtaeaffgjdcigoaaGreat
namespace Go.Proofs.YtaeaffgjdcigoaaGreat
def B:Nat:=4294967296
theorem w9:0<B:=by decide
theorem yO (x:UInt32):x.toNat<B:=x.toNat_lt
def val:List UInt32->Nat
 |[]=>0| x::r=>x.toNat+B*val r
def zJ (n:Nat):List UInt32 :=
 if h:n=0 then [] else UInt32.ofNat (n%B)::zJ (n/B)
termination_by n
decreasing_by exact Nat.div_lt_self (by omega) (by decide)
theorem y6:zJ 0=[]:=by rw[zJ];simp
theorem sC {n:Nat}(h:n≠0):zJ n=UInt32.ofNat (n%B)::zJ (n/B):=by grind [zJ]
theorem sA (n:Nat):(UInt32.ofNat (n%B)).toNat=n%B:=by rw[UInt32.toNat_ofNat'];exact Nat.mod_eq_of_lt (Nat.mod_lt _ w9)
theorem zP (n:Nat):val (zJ n)=n:=by
 induction n using Nat.strongRecOn with
 |_ n ih =>
  by_cases h:n=0;{subst h;rw[y6];rfl};{rw[sC h,val,sA,ih (n/B) (Nat.div_lt_self (by omega) (by decide))];exact Nat.mod_add_div n B}
theorem vV:∀ (a b:List UInt32),val (a++b)=val a+B^a.length*val b
 |[],b=>by simp[val]| x::a,b=>by simp only[List.cons_append,val,List.length_cons,vV a b];grind
theorem x8:∀ (l:List UInt32),val l<B^l.length
 |[]=>by simp[val]| x::r=>by have h1:=x8 r;have h2:=yO x;have h3:B*(val r+1)<=B*B^r.length:=Nat.mul_le_mul_left _ h1;simp only[val,List.length_cons,Nat.pow_succ];rw[Nat.mul_comm (B^r.length) B];rw[Nat.mul_add] at h3;omega
def bL:List UInt32->Bool
 |[]=>true| [x]=>x != 0| _::y::r=>bL (y::r)
theorem WM (x:UInt32){r:List UInt32}(h:r≠[]):bL (x::r)=bL r:=by
 cases r with
 |nil=>grind| cons y r=>rfl
theorem UB:∀ {l:List UInt32},bL l=true->l≠[]->0<val l
 |[],_,h=>absurd rfl h| [x],h,_=>by
  (have h1:x≠0:=by grind [bL]);have:x.toNat≠0:=λe=>h1 (UInt32.toNat_inj.1 e)
  grind [val]
 |x::y::r,h,_=>by have h1:=UB (l:=y::r) h (by simp);grind [B,val]
theorem lD:∀ {l:List UInt32},bL l=true->zJ (val l)=l
 |[],_=>by simp[val,y6]| x::r,h=>by
  have hp:=UB h (by simp);rw[sC (by omega)];have hx:=yO x;have h1:val (x::r)%B=x.toNat:=by simp only[val];rw[Nat.add_mul_mod_self_left,Nat.mod_eq_of_lt hx]
  (have h2:val (x::r)/B=val r:=by grind [val,Nat.add_mul_div_left,Nat.div_eq_of_lt]);rw[h1,h2]
  have hr:bL r=true:=by
   cases r with
   |nil=>rfl| cons y r=>exact h
  rw[lD hr];simp_all
theorem rY (n:Nat):bL (zJ n)=true:=by
 induction n using Nat.strongRecOn with
 |_ n ih =>
  by_cases h:n=0;{subst h;rw[y6];rfl}
  ·rw[sC h];by_cases h2:n/B=0
   ·(rw[h2,y6];have hlt:n<B:=(Nat.div_eq_zero_iff_lt w9).1 h2;have:(UInt32.ofNat (n%B)).toNat≠0:=by grind [sA,Nat.mod_eq_of_lt]);simp only[bL,bne_iff_ne,ne_eq]
    exact λe=>this (by simp_all)
   {rw[WM _ (by grind [sC])];exact ih _ (Nat.div_lt_self (by omega) (by decide))}
theorem eE (l:List UInt32)(x:UInt32):bL (l++[x])=(x != 0):=by
 induction l with
 |nil=>rfl| cons y l ih=>rw[List.cons_append,WM _ (by simp),ih]
theorem Vy (l:List UInt32):val (l++[0])=val l:=by rw[vV];simp[val]
theorem YO:∀ {a b:List UInt32},a.length=b.length->val a=val b->a=b
 |[],[],_,_=>rfl| x::a,y::b,hl,hv=>by
  (simp only[val] at hv;have hx:=yO x;have hy:=yO y;have h1:x.toNat=y.toNat:=by have:=congrArg (· % B) hv;grind [Nat.add_mul_mod_self_left,Nat.mod_eq_of_lt]);have h2:val a=val b:=by rw[h1] at hv;exact Nat.eq_of_mul_eq_mul_left w9 (Nat.add_left_cancel hv)
  rw[UInt32.toNat_inj.1 h1,YO (by grind) h2]
 |[],y::b,hl,_=>by grind| x::a,[],hl,_=>by grind
theorem yF {n k:Nat}(h:n<B^k):(zJ n).length<=k:=by
 induction k generalizing n with
 |zero =>
  grind [y6]
 |succ k ih =>
  by_cases h0:n=0;{grind}
  ·(rw[sC h0,List.length_cons];have:n/B<B^k:=by rw[Nat.div_lt_iff_lt_mul w9];grind);grind
theorem z5 (l:List UInt32):(zJ (val l)).length<=l.length:=yF (x8 l)
theorem YK {n k:Nat}(h:B^k<=n):k<(zJ n).length:=by rcases Nat.lt_or_ge k (zJ n).length with h'|h';{exact h'};{have h1:=x8 (zJ n);rw[zP] at h1;have:B^(zJ n).length<=B^k:=Nat.pow_le_pow_right w9 h';omega}
theorem wD {n:Nat}:zJ n=[]↔n=0:=by constructor;{intro h;have:=zP n;rw[h] at this;exact this.symm};{intro h;subst h;exact y6}
theorem aY (l:List UInt32){n:Nat}(h:n<l.length):l.take (n+1)=l.take n++[l.getD n 0]:=by simp_all
theorem nQ (l:List UInt32){m:Nat}(h:m<l.length):val l=val (l.take m)+B^m*((l.getD m 0).toNat+B*val (l.drop (m+1))):=by
 have e:l=l.take m++(l.getD m 0::l.drop (m+1)):=by simp_all
 have hl:(l.take m).length=m:=by grind
 calc val l=val (l.take m++(l.getD m 0::l.drop (m+1))):=by grind
  _=_:=by rw[vV,hl];rfl
theorem w6 (l:List UInt32)(m:Nat):val (l.take m)<B^m:=by
 have h1:=x8 (l.take m);have h2:(l.take m).length<=m:=by grind
 exact Nat.lt_of_lt_of_le h1 (Nat.pow_le_pow_right w9 h2)
theorem B7 {a b:List UInt32}{m:Nat}(ha:m<a.length)(hb:m<b.length)(hd:a.drop (m+1)=b.drop (m+1))(h:(a.getD m 0).toNat<(b.getD m 0).toNat):val a<val b:=by
 rw[nQ a ha,nQ b hb,hd];have h1:=w6 a m;have h2:(a.getD m 0).toNat+1+B*val (b.drop (m+1))<=(b.getD m 0).toNat+B*val (b.drop (m+1)):=by omega
 have h3:=Nat.mul_le_mul_left (B^m) h2;grind
theorem Zq {n m:Nat}(h:(zJ n).length<(zJ m).length):n<m:=by have h1:=x8 (zJ n);rw[zP] at h1;rcases Nat.lt_or_ge n m with h'|h';{exact h'};{have h2:=yF (Nat.lt_of_le_of_lt h' h1);omega}
def qT (a b:Nat):Int:=if a<b then -1 else if b<a then 1 else 0
theorem Y3 {a b:Nat}(h:a<b):qT a b=-1:=by simp[qT,h]
theorem Y4 {a b:Nat}(h:b<a):qT a b=1:=by simp[qT,h,Nat.not_lt.2 (Nat.le_of_lt h)]
theorem QH (a:Nat):qT a a=0:=by simp[qT]
theorem Q1 (l:List UInt32)(x:UInt32):val (l++[x])=val l+B^l.length*x.toNat:=by rw[vV];simp[val]
theorem lX (l:List UInt32){n:Nat}(h:n<l.length):val (l.take (n+1))=val (l.take n)+B^n*(l.getD n 0).toNat:=by grind [aY,Q1]
theorem z4 (l:List UInt32)(n:Nat):val (l.take (n+1))=val (l.take n)+B^n*(l.getD n 0).toNat:=by rcases Nat.lt_or_ge n l.length with h|h;{exact lX l h};{rw[List.take_of_length_le (by omega),List.take_of_length_le h];simp_all}
theorem qC (l:List UInt32){n:Nat}(h:n<l.length)(x:UInt32):val ((l.set n x).take (n+1))=val (l.take n)+B^n*x.toNat:=by rw[lX _ (by grind)];congr 2;{rw[List.take_set_of_le (Nat.le_refl _)]};grind
theorem x7 (n:Nat):(UInt32.ofNat n).toNat=n%B:=by rw[UInt32.toNat_ofNat'];rfl
theorem rL (l:List UInt32){j:Nat}(h:j<l.length)(x:UInt32):val (l.set j x)+B^j*(l.getD j 0).toNat=val l+B^j*x.toNat:=by
 have hs:j<(l.set j x).length:=by grind
 rw[nQ l h,nQ (l.set j x) hs];have e1:(l.set j x).take j=l.take j:=List.take_set_of_le (Nat.le_refl _);have e2:(l.set j x).drop (j+1)=l.drop (j+1):=by rw[List.drop_set_of_lt (by omega)]
 grind
theorem fD (n:Nat):val (List.replicate n 0)=0:=by
 induction n with
 |zero=>rfl| succ n ih=>simp[List.replicate_succ,val,ih]
theorem tO (l:List UInt32)(j k:Nat)(x:UInt32)(h:j≠k):(l.set j x).getD k 0=l.getD k 0:=by grind
end Go.Proofs.YtaeaffgjdcigoaaGreat
