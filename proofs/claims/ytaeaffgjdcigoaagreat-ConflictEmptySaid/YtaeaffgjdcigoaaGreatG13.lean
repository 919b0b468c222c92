/- A part of the proof: PmQ, PmR, PnA, NtA, NtB. -/
import Derived.Test.YtaeaffgjdcigoaaGreatG12
import Derived.Deep.LoopGhost
import Derived.Scope
set_option linter.all false
namespace Go.Proofs.YtaeaffgjdcigoaaGreat
open Go
def jP (N:Nat):Code->Bool
 |.region _ ops _=>ops.toList.all (nQ N)| .seq a b=>jP N a&&jP N b| .cond _ a b=>jP N a&&jP N b| .block _ b=>jP N b| .loop b=>jP N b| .scope b=>jP N b| _=>true
theorem VN:Pg.follows .mixedOrders=true:=by rw[uZ];rfl
section
variable {w0:World} {S0:Nat->Nat->Prop} {K0:Nat->Prop} {N:Cx}
def Ed (w0:World) (S0:Nat->Nat->Prop) (K0:Nat->Prop) (N:Cx) {σ:Type} (inv:σ->PS) (good:σ->Prop) (Q:Exit->PS->Prop):Exit->Act->World->Prop:=λe a w=>match e with
 |.normal=>∃ s S β,good s/\Sim w0 S0 K0 N (zF (inv s).tmps) (inv s).objs a w S β| e=>∃ ps S β,Q e ps/\Sim w0 S0 K0 N (zF ps.tmps) ps.objs a w S β
theorem Fo {σ:Type}{inv:σ->PS}{good:σ->Prop}{Q:Exit->PS->Prop}:∀ e ps' a' w' S' β',Wl inv good Q e ps'->Sim w0 S0 K0 N (zF ps'.tmps) ps'.objs a' w' S' β'->Ed w0 S0 K0 N inv good Q e a' w':=by
 intro e ps' a' w' S' β' hq hs;cases e with
 |normal =>
  obtain⟨s,hg,hw⟩:=hq;obtain⟨S2,β2,h2⟩:=hw.sound hs;exact⟨s,S2,β2,hg,h2⟩
 |exit i=>exact⟨ps',S',β',hq,hs⟩| goto l=>exact⟨ps',S',β',hq,hs⟩| ret=>exact⟨ps',S',β',hq,hs⟩| panic ch=>exact⟨ps',S',β',hq,hs⟩| outgrown=>exact⟨ps',S',β',hq,hs⟩
theorem R8 {σ:Type}{inv:σ->PS}{good:σ->Prop}{Q:Exit->PS->Prop}{QM:Exit->Act->World->Prop}(hk:∀ e ps' a' w' S' β',Q e ps'->Sim w0 S0 K0 N (zF ps'.tmps) ps'.objs a' w' S' β'->QM e a' w') (hJ:∀ s,good s->Q .normal (inv s)):∀ e a w,Ed w0 S0 K0 N inv good Q e a w->QM e a w:=by
 intro e a w h;cases e with
 |normal=>obtain⟨s,S,β,hg,hs⟩:=h;grind
 |exit i=>obtain⟨ps,S,β,hq,hs⟩:=h;grind
 |goto l=>obtain⟨ps,S,β,hq,hs⟩:=h;grind
 |ret=>obtain⟨ps,S,β,hq,hs⟩:=h;grind
 |panic ch=>obtain⟨ps,S,β,hq,hs⟩:=h;grind
 |outgrown=>obtain⟨ps,S,β,hq,hs⟩:=h;grind
theorem Ci:∀ (c:Code),jP N c=true->∀ {ps:PS} {Q:Exit->PS->Prop} {a:Act} {w:World} {S:Nat->Nat->Prop} {β:Bm} {QM:Exit->Act->World->Prop},Sim w0 S0 K0 N (zF ps.tmps) ps.objs a w S β->wp c ps Q->(∀ e ps' a' w' S' β',Q e ps'->Sim w0 S0 K0 N (zF ps'.tmps) ps'.objs a' w' S' β'->QM e a' w')->c.wp Pg QM a w:=by
 intro c;induction c with
 |skip=>intro _ ps Q a w S β QM h hs hk;exact wp_skip (hk _ _ _ _ _ _ hs h)| region id ops draw =>
  intro hc ps Q a w S β QM h hs hk;simp only[jP,gG] at hc;cases draw with
  |false =>
   simp only[wp] at hs;refine wp_region_list ?_;have hgo:jZ ops.toList ops.toList ps (Q .normal)->_:=λhs=>rI (Q:=QM) (K:=Q .normal) (λps' a' w' S' β' hq hsim=>hk _ _ _ _ _ _ hq hsim) ops.toList hc h hs;split at hs;{rcases hs.h with hs|⟨σ,inv,good,h1,h2⟩;{simp_all};{have:=rI (Q:=QM) (K:=λps'=>∃ s,good s/\Wk ps' (inv s)) (λps' a' w' S' β' hq hsim=>by obtain⟨s,g,k⟩:=hq;obtain⟨S2,β2,h3⟩:=k.sound hsim;grind) ops.toList hc h h1;omega}};simp_all
  |true =>
   simp only[wp] at hs;refine wp_region_any VN ?_;have:=Gl hs (Q:=QM) hc (λps' a' w' S' β' hq hsim=>hk _ _ _ _ _ _ hq hsim) h;simp_all
 |seq x y ihx ihy =>
  intro hc ps Q a w S β QM h hs hk;simp only[jP,yK] at hc;simp only[wp] at hs;refine Go.wp_seq (ihx hc.1 h hs ?_);intro e ps' a' w' S' β' hq hsim;cases e with
  |normal=>exact ihy hc.2 hsim hq hk| exit i=>exact hk _ _ _ _ _ _ hq hsim| goto l=>exact hk _ _ _ _ _ _ hq hsim| ret=>exact hk _ _ _ _ _ _ hq hsim| panic ch=>exact hk _ _ _ _ _ _ hq hsim| outgrown=>exact hk _ _ _ _ _ _ hq hsim
 |cond x y z ihy ihz =>
  intro hc ps Q a w S β QM h hs hk;simp only[jP,yK] at hc;have hr:=h.eval x;simp only[wp] at hs;split at hs;{grind [wp_cond_true,i7]};{grind [wp_cond_false,ZS]};{rename_i b hx;rw[hx] at hr;rcases hs.h with hs|⟨σ,inv,good,hA,hB,hJ⟩;{exact wp_cond_split (sE hr) (λe=>ihy hc.1 h (hs.1 e) hk) (λe=>ihz hc.2 h (hs.2 e) hk)};{exact wp_cond_split (sE hr) (λe=>Code.wp_mono (R8 hk hJ) (ihy hc.1 h (hA e) Fo)) (λe=>Code.wp_mono (R8 hk hJ) (ihz hc.2 h (hB e) Fo))}};{rename_i b hx;rw[hx] at hr;rcases hs.h with hs|⟨σ,inv,good,hA,hB,hJ⟩;{exact wp_cond_split (aL hr) (λe=>ihy hc.1 h (hs.2 (by grind)) hk) (λe=>ihz hc.2 h (hs.1 (by grind)) hk)};{exact wp_cond_split (aL hr) (λe=>Code.wp_mono (R8 hk hJ) (ihy hc.1 h (hB (by grind)) Fo)) (λe=>Code.wp_mono (R8 hk hJ) (ihz hc.2 h (hA (by grind)) Fo))}};grind
 |block id b ih =>
  intro hc ps Q a w S β QM h hs hk;simp only[jP] at hc;simp only[wp] at hs;refine Go.wp_block (ih hc h hs ?_);intro e ps' a' w' S' β' hq hsim;cases e with
  |exit i =>
   simp only[Exit.inBlock];cases hb:nqb i id with
   |true =>
    have:=xC hb;grind
   |false =>
    (have hne:i≠id:=λe=>by simp_all);grind
  |normal=>exact hk _ _ _ _ _ _ hq hsim| goto l=>exact hk _ _ _ _ _ _ hq hsim| ret=>exact hk _ _ _ _ _ _ hq hsim| panic ch=>exact hk _ _ _ _ _ _ hq hsim| outgrown=>exact hk _ _ _ _ _ _ hq hsim
 |exit id=>intro _ ps Q a w S β QM h hs hk;exact wp_exit (hk _ _ _ _ _ _ hs h)| label l=>intro _ ps Q a w S β QM h hs hk;exact wp_label (hk _ _ _ _ _ _ hs h)| scope b ih =>
  intro hc ps Q a w S β QM h hs hk;simp only[jP] at hc;simp only[wp] at hs;refine Go.wp_scope_straight (ih hc h hs ?_);intro e ps' a' w' S' β' hq hsim;cases e with
  |goto l=>grind| normal=>exact hk _ _ _ _ _ _ hq hsim| exit i=>exact hk _ _ _ _ _ _ hq hsim| ret=>exact hk _ _ _ _ _ _ hq hsim| panic ch=>exact hk _ _ _ _ _ _ hq hsim| outgrown=>exact hk _ _ _ _ _ _ hq hsim
 |ret=>intro _ ps Q a w S β QM h hs hk;exact wp_ret (hk _ _ _ _ _ _ hs h)| loop b ih =>
  intro hc ps Q a w S β QM h hs hk;simp only[jP] at hc;simp only[wp] at hs;obtain⟨σ,inv,good,mu,s0,hg,hw,hround⟩:=hs.h;obtain⟨S1,β1,h1⟩:=hw.sound h;refine wp_loop_ghost (λn a w=>∃ s S β,good s/\mu s=n/\Sim w0 S0 K0 N (zF (inv s).tmps) (inv s).objs a w S β) (mu s0) ⟨s0,S1,β1,hg,rfl,h1⟩ ?_;rintro n a' w' ⟨s,S2,β2,hgs,rfl,hsim⟩;refine ih hc hsim (hround s hgs) ?_;intro e ps' a2 w2 S3 β3 hq hsim2;cases e with
  |normal =>
   obtain⟨s',hg',hmu,hwk⟩:=hq;obtain⟨S4,β4,h4⟩:=hwk.sound hsim2;exact⟨mu s',hmu,s',S4,β4,hg',rfl,h4⟩
  |exit i=>exact hk _ _ _ _ _ _ hq hsim2| goto l=>exact hk _ _ _ _ _ _ hq hsim2| ret=>exact hk _ _ _ _ _ _ hq hsim2| panic ch=>exact hk _ _ _ _ _ _ hq hsim2| outgrown=>exact hk _ _ _ _ _ _ hq hsim2
 |_=>intro _ ps Q a w S β QM h hs hk;simp only[wp] at hs
theorem DB {w:World}{S:Nat->Nat->Prop}{β:Bm}{t:Nat}{cs:List PV}{off:Nat}{pv:PV}(h:rdV (ty t) cs off=some pv){b o:Nat}(vals:Nat->Value) (hc:∀ j,j<cs.length->w.cell? ⟨b,o+j,none⟩=some (vals j)) (hr:∀ j,j<cs.length->Rep w S β (vals j) (cs.getD j .any)):∃ val,(loadVar t ⟨b,o+off,none⟩).run Pg w=.ok val w/\Rep w S β val pv:=by
 have hk:rdK (ty t) cs off (λv=>v=pv):=by unfold rdV at h;unfold rdK;grind
 obtain⟨pv',val,h1,h2,h3⟩:=aM hk vals hc hr;grind [Instr.loadAt,Instr.sureAddr]
def Qq (tmps:Array Value):ResultVar->Sem Value
 |.tmp t=>pure (tmps.getD t undef)| .cell a t=>do loadVar t (<-asAddr (tmps.getD a undef))
theorem HT (fn:Func)(tmps:Array Value):results fn tmps=(do let vs <-fn.results.mapM (Qq tmps);pure (if h:vs.size=1 then vs[0] else .tuple vs)):=by unfold results;congr 2
theorem i6 {ps:PS}{a:Act}{w:World}{S:Nat->Nat->Prop}{β:Bm}(h:Sim w0 S0 K0 N (zF ps.tmps) ps.objs a w S β):∀ (rs:List ResultVar) {l:List PV},dL ps rs=some l ->∃ vs:List Value,(rs.mapM (Qq a.tmps):Sem (List Value)).run Pg w=.ok vs w/\RepL w S β vs.toArray l
 |[],l,he=>by simp only[dL,pE] at he;subst he;exact⟨[],rfl,rfl,λj hj=>by grind⟩| .tmp t::r,l,he=>by
  simp only[dL] at he;split at he
  ·rename_i l' hl';simp only[pE] at he;subst he;obtain⟨vs,h1,h2⟩:=i6 h r hl';refine⟨a.tmps.getD t undef::vs,by grind [Sem.run_bind,Qq,Sem.run_pure,Result.andThen_ok],by simpa using h2.1,λj hj=>?_⟩;cases j with
   |zero=>simpa using h.tmp t| succ j=>simpa using h2.2 j (by grind)
  grind
 |.cell x t::r,l,he=>by
  simp only[dL] at he;split at he
  ·rename_i n off hx;split at he
   ·rename_i cs ho;split at he
    ·rename_i v l' hv hl';simp only[pE] at he;subst he;obtain⟨vs,h1,h2⟩:=i6 h r hl';have hr:=h.tmp x;rw[hx] at hr;obtain⟨b,hβ,hv'⟩:=kF hr;obtain⟨b',us,T,hβ',hb,hsz,hrr⟩:=QA h ho;rw[hβ] at hβ';cases hβ';obtain⟨val,h3,h4⟩:=DB (w:=w) (S:=S) (β:=β) (b:=b) (o:=0) hv (λj=>us.getD j undef) (λj hj=>by rw[jQ];grind [cR]) hrr;rw[jQ] at h3;refine⟨val::vs,?_,by simpa using h2.1,λj hj=>?_⟩;{grind [Qq,Sem.run_bind,asAddr,Sem.run_pure,Result.andThen_ok]}
     ·cases j with
      |zero=>simp_all| succ j=>simpa using h2.2 j (by grind)
    grind
   grind
  grind
theorem VI {fn:Func}{ps:PS}{a:Act}{w:World}{S:Nat->Nat->Prop}{β:Bm}(h:Sim w0 S0 K0 N (zF ps.tmps) ps.objs a w S β){l:List PV}(hl:dL ps fn.results.toList=some l):∃ v,(results fn a.tmps).run Pg w=.ok v w/\Rep w S β v (nE l):=by
 obtain⟨vs,h1,h2⟩:=i6 h _ hl;refine⟨if h:vs.toArray.size=1 then vs.toArray[0] else .tuple vs.toArray,?_,?_⟩;{rw[HT,Array.mapM_eq_mapM_toList,Sem.run_bind,Sem.run_map,h1];rfl}
 ·by_cases h3:vs.toArray.size=1
  ·rw[dif_pos h3];have h4:l.length=1:=by rw[<-h2.1];exact h3
   match l,h4 with
   |[x],_ =>
    have:=h2.2 0 (by simp);simp only[nE];simp_all
  ·(rw[dif_neg h3];have h4:l.length≠1:=by rw[<-h2.1];exact h3);have:nE l=.tup l:=by
    match l with
    |[]=>rfl| [x]=>grind| x::y::r=>rfl
   rw[this];exact .tup h2.1 h2.2
theorem Wv {h:Nat->Nat}:∀ {l:List (Nat×Obj')},Ww h l->∀ {n o},(n,o)∈l->h n=n/\1000000<=n
 |(m,x)::r,H,n,o,hm=>by simp only[yI] at hm;rcases hm with hm|hm;{cases hm;exact H.1};{exact Wv H.2 hm}
theorem o6 {h:Nat->Nat}:∀ {l:List Nat},(l.map h).Nodup->l.Nodup
 |[],_=>List.nodup_nil| x::r,hnd=>by simp only[jB,mI] at hnd ⊢;exact⟨λhx=>hnd.1 (xA.2 ⟨x,hx,rfl⟩),o6 hnd.2⟩
def J4:Nat->List PV->List (Nat×PV)
 |_,[]=>[]| k,v::r=>(k,v)::J4 (k+1) r
theorem Ux:∀ (l:List PV) (k t:Nat),zF (J4 k l) t=if k<=t/\t<k+l.length then l.getD (t-k) .any else .any
 |[],k,t=>by simp[J4,zF]| v::r,k,t=>by simp only[J4,zF];by_cases h:k=t;{simp_all};{rw[H4 h];simp only[];rw[Ux r (k+1) t];grind}
theorem CB {f : FuncId} {fn : Func} {c : Code} (hf : Pg.funcs[f]? = some fn) (hb : fn.body = some c) (hname : (fn.name == "runtime.NumGoroutine") = false) (hN : jP fn.ntmps c = true) {args : List PV} (hargs : nle args.length fn.ntmps = true) {kept eaten:List (Nat × Obj')} {r:PV} {kept' made:List (Nat × Obj')} (hnk:kept'.map Prod.fst=kept.map Prod.fst) (hwp:wp c ⟨J4 0 args,kept++eaten⟩ (dT fn.results.toList r kept' made)):Sound f args kept eaten r kept' made where
 isf vals w:=by
  (have hn : ¬ fn.name = "runtime.NumGoroutine" := by grind);simp[callFunc,hf,hn,hb]
 go w S β vals hbnd hobj hsz hrep:=by
  have hal:=nF hargs;refine calls_of_wp hf hb ?_;have hsim:Sim w S (Blk β (kept++eaten)) ⟨fn.ntmps,β⟩ (zF (J4 0 args)) (kept++eaten) { tmps:=vals++Array.replicate (fn.ntmps-vals.size) undef,defers:=[] } w S β:=by
   refine⟨rfl,by grind,⟨yD _,rfl,rfl,rfl,λ_ _ _=>rfl,λb vs T h=>⟨vs,h,rfl⟩,hbnd,λ_ _ _ h=>h,λ_ _ _ _ h=>h⟩,λt=>?_,hobj,λn o b hm hβ=>.inr ⟨n,o,hm,hβ⟩,λ_ _ _ _=>rfl⟩;rw[Ux];by_cases h:t<args.length
   ·(rw[if_pos oM];have h1:=hrep t h;have hlt:t<vals.size:=by omega);simpa[Array.getElem?_append_left hlt] using h1
   {rw[if_neg oM];exact xS _}
  refine Ci c hN hsim hwp ?_;have fin:∀ ps' a' w' S' β',RetOk fn.results.toList r kept' made ps'->Sim w S (Blk β (kept++eaten)) ⟨fn.ntmps,β⟩ (zF ps'.tmps) ps'.objs a' w' S' β' ->
    a'.defers=[]/\∃ v,(results fn a'.tmps).run Pg w'=.ok v w'/\(∃ v' S' β',Ending.returned v=.returned v'/\Leads w S (Blk β (kept++eaten)) w' S'/\Rep w' S' β' v' r/\ObjsAt w' S' β' (kept'++made) /\
   (kept'.map Prod.fst=kept.map Prod.fst)/\(∀ n o,(n,o)∈kept->β' n=β n) /\
   (∀ n o b,(n,o)∈kept'++made->Own β' n o b->w.heap.size<=b\/Blk β (kept++eaten) b)):=by
   intro ps1 a' w' S1 β1 hr h1;obtain⟨ps',l,hn,hw,hl,hle,hlv,hobjs,hnd,hkid⟩:=hr.h;obtain⟨S2,β2,h2⟩:=hw.sound h1;obtain⟨v,h3,h4⟩:=VI h2 hl;have hmem:∀ {n o},(n,o)∈kept'++made->(hn n,x9 (ren hn) o)∈ps'.objs/\bA o=true:=λhm=>nO hobjs hm;have hndn:=gZ hnd;have fstH:∀ {n o},(n,o)∈kept'++made->∀ {m o'},(m,o')∈kept'++made->hn n=hn m->n=m:=λhm _ _ hm' he=>lF hndn hm hm' he;refine⟨h2.dfr,v,h3,v,S2,β2.ren hn,rfl,h2.ld,Qt (h4.le _ hle) hlv,⟨?_,λn o hm=>Fh (hmem hm).2 (h2.obj.at_ _ _ (hmem hm).1),λn o b hm hβ=>?_,
    λn o m o' b hm hm' hβ hβ'=>fstH hm hm' (h2.obj.inj _ _ _ _ b (hmem hm).1 (hmem hm').1 (rH.1 hβ) (rH.1 hβ'))⟩,hnk,λn o hm=>?_,λn o b hm hβ=>h2.own _ _ b (hmem hm).1 (rH.1 hβ)⟩
   {rw[dV] at hndn;exact o6 hndn};{obtain⟨h5,h6⟩:=h2.obj.un _ _ b (hmem hm).1 (rH.1 hβ);grind [Um]};{obtain⟨o',hm'⟩:=Y4 hnk.symm hm;obtain⟨e1,e2⟩:=Wv hkid hm';have:=h2.keep n _ (by have:=(hmem (UY made hm')).1;rwa [e1] at this) e2;show β2 (hn n)=β n;grind}
  intro e ps' a' w' S' β' hq hs';cases e with
  |normal=>exact fin _ _ _ _ _ hq hs'| ret=>exact fin _ _ _ _ _ hq hs'| exit i=>exact hq.elim| goto l=>exact hq.elim| panic ch=>exact hq.elim| outgrown=>exact hq.elim
end
def Yf (f:Func):Code:=f.body.getD .skip
theorem aW {f : FuncId} {fn : Func} (hf : Pg.funcs[f]? = some fn) (hb : fn.body.isSome = true) (hname : (fn.name == "runtime.NumGoroutine") = false) (hN : jP fn.ntmps (Yf fn) = true) {args : List PV} (hargs : nle args.length fn.ntmps = true) {kept eaten:List (Nat × Obj')} {r:PV} {kept' made:List (Nat × Obj')} (hnk:kept'.map Prod.fst=kept.map Prod.fst) (hwp:wp (Yf fn) ⟨J4 0 args,kept++eaten⟩ (dT fn.results.toList r kept' made)):Sound f args kept eaten r kept' made:=by
 obtain⟨c,hc⟩:=iT.1 hb;have:Yf fn=c:=by simp[Yf,hc]
 rw[this] at hN hwp;exact CB hf hc hname hN hargs hnk hwp
theorem yP {g as_ dst ps K f caps args' r}(h1:ev (zF ps.tmps) g=.fn f caps)(h2:jA les (evs (ev (zF ps.tmps)) as_++caps) args')(h3:zD f args' r)(h5:nmIn [] r=true)(h4:K (put ps dst r)):CallOk g as_ dst ps K :=
 ⟨ps,.refl ps,f,caps,h1,.inl ⟨args',r,lP h2,h3,h5,h4⟩⟩
theorem j7 {rs:List ResultVar}{r:PV}{ps:PS}{l:List PV}(h1:dL ps rs=some l)(h2:les (nE l) (ren id r))(h3:lv r=true):RetOk rs r [] [] ps :=
 ⟨ps,l,id,.refl ps,h1,dW h2,h3,trivial,rfl,trivial⟩
theorem LE {rs:List ResultVar}{r:PV}{ps:PS}(h3:lv r=true)(h:match dL ps rs with
  |some l=>les (nE l) (ren id r)| none=>False):RetOk rs r [] [] ps:=by
 cases h1:dL ps rs with
 |none=>rw[h1] at h;exact h.elim| some l=>rw[h1] at h;exact j7 h1 h h3
theorem zW {B:PS->(Exit->PS->Prop)->Prop}{ps:PS}{Q:Exit->PS->Prop}{σ:Type}(inv:σ->PS)(good:σ->Prop)(mu:σ->Nat)(s0:σ)(h0:good s0)(hw:Wk ps (inv s0)) (hr:∀ s,good s->B (inv s) (λe ps'=>match e with
   |.normal=>∃ s',good s'/\mu s'<mu s/\Wk ps' (inv s')| e=>Q e ps')):LoopOk B ps Q:=⟨⟨σ,inv,good,mu,s0,h0,hw,hr⟩⟩
theorem My (v:PV):rn0 id v=v:=by cases v <;> rfl
theorem YZ {f:PV->PV}(h:∀ v,f v=v):∀ (l:List PV),vG f l=l
 |[]=>rfl| v::r=>by simp only[vG,h v,YZ h r]
theorem Mx (v:PV):rn1 id v=v:=by cases v <;> simp only[rn1,rn0,YZ My,id]
theorem Bf (v:PV):ren id v=v:=by cases v <;> simp only[ren,rn0,YZ Mx,id]
theorem Fq {f:PV->PV}(h:∀ v,f v=v):∀ (l:List (PV×(Unit->Nat))),sP f l=l
 |[]=>rfl| (v,k)::r=>by simp only[sP,h v,Fq h r]
theorem Wm (o:Obj'):x9 (ren id) o=o:=by cases o <;> simp only[x9,YZ Bf,Fq Bf]
theorem MF {rs:List ResultVar}{r:PV}{ps ps':PS}{l:List PV}(hw:Wk ps ps')(h1:dL ps' rs=some l)(h2:les (nE l) (ren id r))(h3:lv r=true):RetOk rs r [] [] ps :=
 ⟨ps',l,id,hw,h1,dW h2,h3,trivial,rfl,trivial⟩
theorem qF {g as_ dst ps ps' K f caps args' r}(hw:Wk ps ps')(h1:ev (zF ps'.tmps) g=.fn f caps)(h2:jA les (evs (ev (zF ps'.tmps)) as_++caps) args')(h3:zD f args' r)(h5:nmIn [] r=true)(h4:K (put ps' dst r)):CallOk g as_ dst ps K :=
 ⟨ps',hw,f,caps,h1,.inl ⟨args',r,lP h2,h3,h5,h4⟩⟩
theorem bQ {n:Nat}{els:List (List PV)}{d:Nat}{ps:PS}{K:PS->Prop}(h:K (put ps (some d) (S7 els))):BldK n els d ps K:=⟨.inl h⟩
theorem Px {n:Nat}{els:List (List PV)}{d:Nat}{ps:PS}{K:PS->Prop}(hf:yV d ps=true)(h:K ⟨uG ps.tmps d (.osl d n (λ_=>0) (λ_=>(zL els).length)),ps.objs++[(d,.arr n (λ_=>zL els))]⟩):BldK n els d ps K:=⟨.inr ⟨hf,h⟩⟩
theorem J5 {t base x d ps K n b z xs}(ht:ty t=.sli n b z){m o len els}(hb:ev (zF ps.tmps) base=.osl m n o len)(ho:yO ps.objs m=some (.arr n els))(ho0:o ()=0)(hl:len ()=(els ()).length){m' o' len'}(hx:ev (zF ps.tmps) x=.osl m' n o' len')(hm:yO ps.objs m'=some (.arr n xs))(h0:o' ()=0)(hl':len' ()=(xs ()).length)(hw:Wid n xs) (hr:Room (λ_=>(((els ()).length+(xs ()).length:Nat):Int)) b) (hf:yV d ⟨uI (scr m) ps.tmps,xO (scr m) (uD ps.objs m)⟩=true) (hK:K ⟨uG (uI (scr m) ps.tmps) d (.osl d n (λ_=>0) (λ_=>(els ()).length+(xs ()).length)),xO (scr m) (uD ps.objs m)++[(d,.arr n (λ_=>els ()++xs ()))]⟩):AppK t base x (some d) ps K :=
 ⟨.inl ⟨ps,d,d,n,b,z,xs,.refl ps,rfl,ht,.inr ⟨false,m',o',len',hx,hm,h0,hl'⟩,hw,.inr ⟨false,m,o,len,els,hb,ho,ho0,hl,hr,hf,hK⟩⟩⟩
theorem wM {t base x d ps K n b z xs}(ht:ty t=.sli n b z){m o len els}(hb:ev (zF ps.tmps) base=.osl m n o len)(ho:yO ps.objs m=some (.arr n els))(ho0:o ()=0)(hl:len ()=(els ()).length)(hx:ev (zF ps.tmps) x=.sl xs)(hw:Wid n xs) (hr:Room (λ_=>(((els ()).length+(xs ()).length:Nat):Int)) b) (hf:yV d ⟨uI (scr m) ps.tmps,xO (scr m) (uD ps.objs m)⟩=true) (hK:K ⟨uG (uI (scr m) ps.tmps) d (.osl d n (λ_=>0) (λ_=>(els ()).length+(xs ()).length)),xO (scr m) (uD ps.objs m)++[(d,.arr n (λ_=>els ()++xs ()))]⟩):AppK t base x (some d) ps K :=
 ⟨.inl ⟨ps,d,d,n,b,z,xs,.refl ps,rfl,ht,.inl (.inl hx),hw,.inr ⟨false,m,o,len,els,hb,ho,ho0,hl,hr,hf,hK⟩⟩⟩
theorem Kg {t base x d ps K n b z xs}(ht:ty t=.sli n b z){m o len els}(hb:ev (zF ps.tmps) base=.osl m n o len)(ho:yO ps.objs m=some (.log n els))(ho0:o ()=0)(hl:len ()=(els ()).length)(hx:ev (zF ps.tmps) x=.sl xs)(hw:Wid n xs) (hr:Room (λ_=>(((els ()).length+(xs ()).length:Nat):Int)) b) (hf:yV d ⟨uI (scr m) ps.tmps,xO (scr m) (uD ps.objs m)⟩=true) (hK:K ⟨uG (uI (scr m) ps.tmps) d (.osl d n (λ_=>0) (λ_=>(els ()).length+(xs ()).length)),xO (scr m) (uD ps.objs m)++[(d,.log n (λ_=>els ()++xs ()))]⟩):AppK t base x (some d) ps K :=
 ⟨.inl ⟨ps,d,d,n,b,z,xs,.refl ps,rfl,ht,.inl (.inl hx),hw,.inr ⟨true,m,o,len,els,hb,ho,ho0,hl,hr,hf,hK⟩⟩⟩
theorem wU {t base x d ps K n b z xs}(ht:ty t=.sli n b z){m o len els}(hb:ev (zF ps.tmps) base=.osl m n o len)(ho:yO ps.objs m=some (.arr n els))(ho0:o ()=0)(hl:len ()=(els ()).length)(hx:ev (zF ps.tmps) x=.sl xs)(hw:Wid n xs) (hr:Room (λ_=>(((els ()).length+(xs ()).length:Nat):Int)) b) (hf:yV m ⟨uI (scr m) ps.tmps,xO (scr m) (uD ps.objs m)⟩=true) (hK:K ⟨uG (uI (scr m) ps.tmps) d (.osl m n (λ_=>0) (λ_=>(els ()).length+(xs ()).length)),xO (scr m) (uD ps.objs m)++[(m,.arr n (λ_=>els ()++xs ()))]⟩):AppK t base x (some d) ps K :=
 ⟨.inl ⟨ps,d,m,n,b,z,xs,.refl ps,rfl,ht,.inl (.inl hx),hw,.inr ⟨false,m,o,len,els,hb,ho,ho0,hl,hr,hf,hK⟩⟩⟩
theorem p7 {t base x d ps K n b z xs}(ht:ty t=.sli n b z){m o len els}(hb:ev (zF ps.tmps) base=.osl m n o len)(ho:yO ps.objs m=some (.log n els))(ho0:o ()=0)(hl:len ()=(els ()).length)(hx:ev (zF ps.tmps) x=.sl xs)(hw:Wid n xs) (hr:Room (λ_=>(((els ()).length+(xs ()).length:Nat):Int)) b) (hf:yV m ⟨uI (scr m) ps.tmps,xO (scr m) (uD ps.objs m)⟩=true) (hK:K ⟨uG (uI (scr m) ps.tmps) d (.osl m n (λ_=>0) (λ_=>(els ()).length+(xs ()).length)),xO (scr m) (uD ps.objs m)++[(m,.log n (λ_=>els ()++xs ()))]⟩):AppK t base x (some d) ps K :=
 ⟨.inl ⟨ps,d,m,n,b,z,xs,.refl ps,rfl,ht,.inl (.inl hx),hw,.inr ⟨true,m,o,len,els,hb,ho,ho0,hl,hr,hf,hK⟩⟩⟩
theorem Fy {objs:List (Nat×Obj')}{v:PV}{K:PV->Prop}(h:K v):LdK objs v K:=⟨.inl h⟩
theorem r8 {objs:List (Nat×Obj')}{v:PV}{K:PV->Prop}(n:Nat){s:Nat}{els:Unit->List (List D)}(h1:yO objs n=some (.lent s els))(h2:fo n (.lent s els) v)(h3:K (frz n (.lent s els) v)):LdK objs v K:=⟨.inr ⟨n,s,els,h1,h2,h3⟩⟩
theorem HU {ops:List Oper}{ps:PS}{K:PS->Prop}(h:jZ ops ops ps K):RegK ops ps K:=⟨.inl h⟩
theorem KW {ops:List Oper}{ps:PS}{K:PS->Prop}{σ:Type}(inv:σ->PS)(good:σ->Prop)(h1:jZ ops ops ps (λps'=>∃ s,good s/\Wk ps' (inv s)))(h2:∀ s,good s->K (inv s)):RegK ops ps K:=⟨.inr ⟨σ,inv,good,h1,h2⟩⟩
theorem z8 {i len:Nat}{els:List (List D)}(h:i+len<=els.length):FrOk (λ_=>i) (λ_=>len) (λ_=>els):=⟨h⟩
theorem zM {ops:List Oper}{ps:PS}{K:PS->Prop}(k:Nat)(hd:pC ops k=true)(h:Yb ops [] (yL (ops.take k)) ps.objs (ops.take k) 0 ps.tmps ps.objs (λT O=>We (yL (ops.take k)) T (jZ ops (ops.drop k) ⟨T,O⟩ K)))(hm:(ndO (yL (ops.take k))&&QI ps (yL (ops.take k)))=true:=by cbv):DrawK ops ps K:=.ef k [] ps (.refl ps) hd rfl hm h
theorem kJ {ops:List Oper}{ps:PS}{K:PS->Prop}(k:Nat)(hd:pC ops k=true)(hm:(ndO (yL (ops.take k))&&QI ps (yL (ops.take k)))=true) (h:Yb ops [] (yL (ops.take k)) ps.objs (ops.take k) 0 ps.tmps ps.objs (λT O=>We (yL (ops.take k)) T (jZ ops (ops.drop k) ⟨T,O⟩ K))):DrawK ops ps K:=.ef k [] ps (.refl ps) hd rfl hm h
theorem vD {ops:List Oper}{ps:PS}{K:PS->Prop}(k:Nat)(es:List (Nat×Nat))(hd:pC ops k=true)(he:Nr ops k es=true)(hm:(ndO (yL (ops.take k))&&QI ps (yL (ops.take k)))=true) (h:Yb ops es (yL (ops.take k)) (gC (kL es) ps.objs) (ops.take k) 0 ps.tmps ps.objs (λT O=>We (yL (ops.take k)) T (jZ ops (ops.drop k) ⟨T,O⟩ K))):DrawK ops ps K:=.ef k es ps (.refl ps) hd he hm h
theorem Pq {ops:List Oper}{ps:PS}{K:PS->Prop}(k:Nat)(es:List (Nat×Nat))(hd:pC ops k=true)(he:NE k es=true) (h:J7 ops es (anc ops) (gC (kL es) ps.objs) (ops.take k) 0 ps.tmps ps.objs (λT O=>jZ ops (ops.drop k) ⟨sS (kL es) T,xO (scC (kL es)) O⟩ K)):DrawK ops ps K:=.ap k es ps (.refl ps) hd he h
theorem rN {ops:List Oper}{ps ps':PS}{K:PS->Prop}{σ:Type}(inv:σ->PS)(good:σ->Prop)(hw:Wk ps ps')(hsel:Region.noSelect ops.toArray=true)(h:Vf ops ops.length (List.replicate ops.length false) ps' (λq=>∃ s,good s/\Wk q (inv s)))(h2:∀ s,good s->K (inv s)):DrawK ops ps K:=.br σ inv good ps' hw hsel h h2
theorem FN {t:TypeId}{x:Operand}{T:List (Nat×PV)}{n s b:Nat}{z:List PV}{xs els:Unit->List (List D)}{o' len:Unit->Nat}{K:PV->Obj'->Prop}(h1:ty t=.sli s b z)(h2:ev (zF T) x=.sl xs)(h3:Wid s xs)(h4:o' ()=0)(h5:len ()=(els ()).length) (h6:Room (λ_=>(((els ()).length+(xs ()).length:Nat):Int)) b) (hK:K (.osl n s (λ_=>0) (λ_=>(els ()).length+(xs ()).length)) (.arr s (λ_=>els ()++xs ()))):EffA t x (.osl n s o' len) T (some (.arr s els)) n K :=
 ⟨s,b,z,xs,false,els,h1,.inl h2,h3,rfl,.inl ⟨o',len,rfl,h4,h5,h6,hK⟩⟩
theorem WQ {g:Operand}{as_:List Operand}{T:List (Nat×PV)}{n:Nat}{K:PV->Obj'->Prop}{f:FuncId}{caps cargs:List PV}{m:Nat}{x x':Obj'}{r:PV}(hn:Nat->Nat) (h1:ev (zF T) g=.fn f caps) (h2:jA les (evs (ev (zF T)) as_++caps) (oW hn cargs)) (h3:Sound f cargs [(m,x)] [] r [(m,x')] []) (h4:hn m=n) (h6:tW x=true) (h7:tW x'=true) (h9:yS lv cargs=true) (h10:lv r=true) (h11:nmIn [m] r=true) (h12:K (ren hn r) x'):Eff1 g as_ T (some x) n K:=⟨f,caps,hn,cargs,m,x,r,x',h1,lP h2,h3,h4,rfl,h6,h7,h9,h10,h11,h12⟩
theorem gT (z:Int):nx .u32 z=z%4294967296:=by unfold nx;simp[IntKind.wrap,IntKind.signed,IntKind.bits]
theorem uH (z:Int):nx .u64 z=z%18446744073709551616:=by unfold nx;simp[IntKind.wrap,IntKind.signed,IntKind.bits]
theorem zY (n:Nat):@NatCast.natCast Int instNatCastInt n=((n:Nat):Int):=rfl
theorem zQ {p:Prop}[Decidable p]{A B:Unit->Prop}(h1:p->A ())(h2:¬p->B ()):Br (λ_=>decide p) A B:=⟨λh=>h1 (of_decide_eq_true h),λh=>h2 (of_decide_eq_false h)⟩
theorem yA {b:Bool}{A B:Unit->Prop}(h1:b=true->A ())(h2:b=false->B ()):Br (λ_=>b) A B:=⟨h1,h2⟩
theorem zE {p:Prop}[Decidable p]{A B:(Exit->PS->Prop)->Prop}{Q:Exit->PS->Prop}(h1:p->A Q)(h2:¬p->B Q):Cut (λ_=>decide p) A B Q:=⟨.inl ⟨λh=>h1 (of_decide_eq_true h),λh=>h2 (of_decide_eq_false h)⟩⟩
theorem zP {b:Bool}{A B:(Exit->PS->Prop)->Prop}{Q:Exit->PS->Prop}(h1:b=true->A Q)(h2:b=false->B Q):Cut (λ_=>b) A B Q:=⟨.inl ⟨h1,h2⟩⟩
theorem gD {p:Prop}[Decidable p]{A B:(Exit->PS->Prop)->Prop}{Q:Exit->PS->Prop}{σ:Type}(inv:σ->PS)(good:σ->Prop) (h1:p->A (Wl inv good Q)) (h2:¬p->B (Wl inv good Q)) (h3:∀ s,good s->Q .normal (inv s)):Cut (λ_=>decide p) A B Q :=
 ⟨.inr ⟨σ,inv,good,λh=>h1 (of_decide_eq_true h),λh=>h2 (of_decide_eq_false h),h3⟩⟩
theorem lT {b:Bool}{A B:(Exit->PS->Prop)->Prop}{Q:Exit->PS->Prop}{σ:Type}(inv:σ->PS)(good:σ->Prop) (h1:b=true->A (Wl inv good Q)) (h2:b=false->B (Wl inv good Q)) (h3:∀ s,good s->Q .normal (inv s)):Cut (λ_=>b) A B Q :=
 ⟨.inr ⟨σ,inv,good,h1,h2,h3⟩⟩
theorem zC {z:Int}(h1:-9223372036854775808<=z)(h2:z<=9223372036854775807):InI64 (λ_=>z):=⟨h1,h2⟩
theorem v8 {z:Int}(h:0<=z):Nn (λ_=>z):=⟨h⟩
theorem vX {z:Int}(h:z≠0):Nz (λ_=>z):=⟨h⟩
theorem yZ {k:Int}{n:Nat}(h1:0<=k)(h2:k<(n:Int)):Rng (λ_=>k) (λ_=>n):=⟨h1,h2⟩
theorem uT {l h:Int}{n:Nat}(h1:0<=l)(h2:l<=h)(h3:h<=(n:Int)):SlOk (λ_=>l) (λ_=>h) (λ_=>n):=⟨h1,h2,h3⟩
theorem S6 {l h:Int}(h1:l<h):SlNe (λ_=>l) (λ_=>h):=⟨h1⟩
theorem z5 {n:Int}{b:Nat}(h1:0<=n)(h2:n*(b:Int)<=70368744177664):Room (λ_=>n) b:=⟨h1,h2⟩
theorem kX {x y:Int}(h1:0<=x)(h2:x<=y):MkOk (λ_=>x) (λ_=>y):=⟨h1,h2⟩
theorem Ab {n:Nat}{els:List (List D)}{k:Int}{K:List PV->Prop}(j:Nat)(hk:k=(j:Int))(c:List PV)(hf:yS qZ c=true)(hn:c.length=n)(he:els[j]?=some (xE c))(hK:K c):IdxOk n (λ_=>els) (λ_=>k) K :=
 ⟨⟨by simp only[hk];omega,c,hf,hn,by simp only[hk,mG];exact he,hK⟩⟩
theorem Ta {n:Nat}{els:List (List D)}{i:Nat}{K:List PV->Prop}(j:Nat)(hk:i=j)(c:List PV)(hf:yS qZ c=true)(hn:c.length=n)(he:els[j]?=some (xE c))(hK:K c):ElOk n (λ_=>els) (λ_=>i) K :=
 ⟨⟨c,hf,hn,by simp only[hk];exact he,hK⟩⟩
theorem nK (a:PV):LeS a a:=⟨Le.refl a⟩
theorem zB {k:IntKind}{a b:Int}(h:a=b):LeS (.int k (λ_=>a)) (.int k (λ_=>b)):=⟨by simp[Le,h]⟩
theorem zS {a b:List (List D)}(h:a=b):LeS (.sl (λ_=>a)) (.sl (λ_=>b)):=⟨by simp[Le,h]⟩
theorem yX {b:List (List D)}(h:b=[]):LeS .nil (.sl (λ_=>b)):=⟨by simp[Le,h]⟩
theorem zZ {n m o o' l l':Nat}(h:o=o')(h2:l=l'):LeS (.osl n m (λ_=>o) (λ_=>l)) (.osl n m (λ_=>o') (λ_=>l')):=⟨by simp[Le,h,h2]⟩
theorem zH {a b:List (List D)}(h:a=b):ElsEq (λ_=>a) (λ_=>b):=⟨h⟩
theorem z4 {a b:Bool}(h:a=b):LeS (.bool (λ_=>a)) (.bool (λ_=>b)):=⟨by simp[Le,h]⟩
theorem vM {a b:Bool}(h:b=!a):LeS (.nbool (λ_=>a)) (.bool (λ_=>b)):=⟨by simp[Le,h]⟩
theorem yH {b:Bool}(h:b=true):LeS .tt (.bool (λ_=>b)):=⟨by simp[Le,h]⟩
theorem zK {b:Bool}(h:b=false):LeS .ff (.bool (λ_=>b)):=⟨by simp[Le,h]⟩
def lm (l:List UInt32):List (List D):=l.map λx=>[.int .u32 x.toNat]
abbrev nat (l:List UInt32):PV:=.sl (λ_=>lm l)
theorem zI (l:List UInt32):(lm l).length=l.length:=by simp[lm]
theorem eD (l:List UInt32):Wid 1 (λ_=>lm l):=⟨λe he=>by simp only[lm,xA] at he;obtain⟨x,_,rfl⟩:=he;rfl⟩
theorem BR {l:List UInt32}{j:Nat}(hj:j<l.length):(lm l)[j]?=some [.int .u32 ((l.getD j 0).toNat:Int)]:=by simp[lm,hj]
theorem xG {l:List UInt32}{k:Int}{K:List PV->Prop}(j:Nat)(hk:k=(j:Int))(hj:j<l.length)(hK:K [.int .u32 (λ_=>((l.getD j 0).toNat:Int))]):IdxOk 1 (λ_=>lm l) (λ_=>k) K :=
 Ab j hk [.int .u32 (λ_=>((l.getD j 0).toNat:Int))] rfl rfl (BR hj) hK
theorem j9 {l:List UInt32}{i:Nat}{K:List PV->Prop}(j:Nat)(hk:i=j)(hj:j<l.length)(hK:K [.int .u32 (λ_=>((l.getD j 0).toNat:Int))]):ElOk 1 (λ_=>lm l) (λ_=>i) K :=
 Ta j hk [.int .u32 (λ_=>((l.getD j 0).toNat:Int))] rfl rfl (BR hj) hK
theorem Ft (l:List UInt32)(n:Nat):(lm l).take n=lm (l.take n):=by simp[lm,Vo]
theorem Pb (l:List UInt32)(n:Nat):(lm l).drop n=lm (l.drop n):=by simp[lm,F8]
theorem DG (l m:List UInt32):lm l++lm m=lm (l++m):=by simp[lm]
theorem om {p:Prop}(h:p:=by (try dsimp only [zY] at *) <;> (try simp only[zI] at *) <;> omega):p:=h
theorem okA {p:Prop}(h:p:=by repeat' first|exact trivial|exact nK _|exact yH rfl|exact zK rfl|exact yX rfl|apply And.intro):p:=h
theorem okZ {p:Prop}(h:p:=by cbv;repeat' first|exact trivial|exact nK _|exact zH rfl|exact zB om|exact yX rfl|exact zK (by assumption)|exact yH (by assumption)|exact z4 (by assumption)|apply And.intro):p:=h
theorem lR {a:PV}:LeS a a:=nK a
theorem wkY {ps ps':PS}(h:leT ps.tmps ps'.tmps/\leO ps.objs ps'.objs)(hn:ndO ps'.objs=true:=by rfl):Wk ps ps':=.le h.1 h.2 hn
theorem wkZ {ps ps':PS}(h:leT ps.tmps ps'.tmps/\leO ps.objs ps'.objs:=by cbv;repeat' first|exact trivial|exact nK _|exact zH rfl|exact zB om|exact yX rfl|exact zK (by assumption)|exact yH (by assumption)|exact z4 (by assumption)|apply And.intro)(hn:ndO ps'.objs=true:=by rfl):Wk ps ps':=.le h.1 h.2 hn
theorem cA {g as_ dst ps K f caps args' r}(h3:zD f args' r)(h4:K (put ps dst r))(h1:ev (zF ps.tmps) g=.fn f caps:=by exact rfl)(h2:jA les (evs (ev (zF ps.tmps)) as_++caps) args':=by exact okA)(h5:nmIn [] r=true:=by exact rfl):CallOk g as_ dst ps K:=yP h1 h2 h3 h5 h4
theorem sF {f : FuncId} (fn : Func) {args : List PV} {kept eaten : List (Nat × Obj')} {r : PV} {kept' made : List (Nat × Obj')} (hwp : wp (Yf fn) ⟨J4 0 args, kept ++ eaten⟩ (dT fn.results.toList r kept' made)) (hf : Pg.funcs[f]? = some fn := by rw [uZ]; rfl) (hb : fn.body.isSome = true := by exact rfl) (hname : (fn.name == "runtime.NumGoroutine") = false := by exact rfl) (hN : jP fn.ntmps (Yf fn) = true := by exact rfl) (hargs : nle args.length fn.ntmps = true := by exact rfl) (hnk : kept'.map Prod.fst = kept.map Prod.fst := by exact rfl) : Sound f args kept eaten r kept' made := aW hf hb hname hN hargs hnk hwp
theorem rC {rs:List ResultVar}{r:PV}{ps:PS}(h:match dL ps rs with
 |some l=>les (nE l) (ren id r)| none=>False) (h3:lv r=true:=by exact rfl):RetOk rs r [] [] ps:=LE h3 h
abbrev bV (x:Bool):PV:=.bool (λ_=>x)
abbrev oV (m n x:Nat):PV:=.osl m n (λ_=>0) (λ_=>x)
abbrev aV (n:Nat) (x:List (List D)):Obj':=.arr n (λ_=>x)
theorem ex {α:Sort _}(a:α):∃ x,a=x:=⟨_,rfl⟩
theorem rA {rs:List ResultVar}{r:PV}{ps:PS}(h:match dL ps rs with
 |some l=>les (nE l) (ren id r)| none=>False:=by cbv;exact okA) (h3:lv r=true:=by exact rfl):RetOk rs r [] [] ps:=LE h3 h
abbrev iV (x:Int):PV:=.int .i64 (λ_=>x)
theorem okR {p:Prop}(h:p:=by repeat' first|exact trivial|exact rfl|omega|apply And.intro):p:=h
abbrev LY:Nat->Nat:=λn=>match nqb n 1000000 with|true=>12|false=>16
abbrev LX:Nat->Nat:=λn=>match nqb n 1000000 with|true=>11|false=>101
abbrev LW:Nat->Nat:=λn=>match nqb n 1000000 with|true=>12|false=>102
end Go.Proofs.YtaeaffgjdcigoaaGreat
namespace Go.Proofs.YtaeaffgjdcigoaaGreat
def B:Nat:=4294967296
theorem w8:0<B:=by decide
theorem yM (x:UInt32):x.toNat<B:=x.toNat_lt
def val:List UInt32->Nat
 |[]=>0| x::r=>x.toNat+B*val r
def zJ (n:Nat):List UInt32 :=
 if h:n=0 then [] else UInt32.ofNat (n%B)::zJ (n/B)
termination_by n
decreasing_by exact Nat.div_lt_self (by omega) (by decide)
theorem y4:zJ 0=[]:=by rw[zJ];simp
theorem aP {n:Nat}(h:n≠0):zJ n=UInt32.ofNat (n%B)::zJ (n/B):=by grind [zJ]
theorem aN (n:Nat):(UInt32.ofNat (n%B)).toNat=n%B:=by rw[UInt32.toNat_ofNat'];exact Nat.mod_eq_of_lt (Nat.mod_lt _ w8)
theorem zR (n:Nat):val (zJ n)=n:=by
 induction n using Nat.strongRecOn with
 |_ n ih =>
  by_cases h:n=0;{subst h;rw[y4];rfl};{rw[aP h,val,aN,ih (n/B) (Nat.div_lt_self (by omega) (by decide))];exact Nat.mod_add_div n B}
theorem vL:∀ (a b:List UInt32),val (a++b)=val a+B^a.length*val b
 |[],b=>by simp[val]| x::a,b=>by simp only[List.cons_append,val,List.length_cons,vL a b];grind
theorem x5:∀ (l:List UInt32),val l<B^l.length
 |[]=>by simp[val]| x::r=>by have h1:=x5 r;have h2:=yM x;have h3:B*(val r+1)<=B*B^r.length:=Nat.mul_le_mul_left _ h1;simp only[val,List.length_cons,Nat.pow_succ];rw[Nat.mul_comm (B^r.length) B];rw[Nat.mul_add] at h3;omega
def bH:List UInt32->Bool
 |[]=>true| [x]=>x != 0| _::y::r=>bH (y::r)
theorem W6 (x:UInt32){r:List UInt32}(h:r≠[]):bH (x::r)=bH r:=by
 cases r with
 |nil=>grind| cons y r=>rfl
theorem U4:∀ {l:List UInt32},bH l=true->l≠[]->0<val l
 |[],_,h=>absurd rfl h| [x],h,_=>by
  (have h1:x≠0:=by grind [bH]);have:x.toNat≠0:=λe=>h1 (UInt32.toNat_inj.1 e)
  grind [val]
 |x::y::r,h,_=>by have h1:=U4 (l:=y::r) h (by simp);grind [B,val]
theorem lN:∀ {l:List UInt32},bH l=true->zJ (val l)=l
 |[],_=>by simp[val,y4]| x::r,h=>by
  have hp:=U4 h (by simp);rw[aP (by omega)];have hx:=yM x;have h1:val (x::r)%B=x.toNat:=by simp only[val];rw[Nat.add_mul_mod_self_left,Nat.mod_eq_of_lt hx]
  (have h2:val (x::r)/B=val r:=by grind [val,Nat.add_mul_div_left,Nat.div_eq_of_lt]);rw[h1,h2]
  have hr:bH r=true:=by
   cases r with
   |nil=>rfl| cons y r=>exact h
  rw[lN hr];simp_all
theorem rQ (n:Nat):bH (zJ n)=true:=by
 induction n using Nat.strongRecOn with
 |_ n ih =>
  by_cases h:n=0;{subst h;rw[y4];rfl}
  ·rw[aP h];by_cases h2:n/B=0
   ·(rw[h2,y4];have hlt:n<B:=(Nat.div_eq_zero_iff_lt w8).1 h2;have:(UInt32.ofNat (n%B)).toNat≠0:=by grind [aN,Nat.mod_eq_of_lt]);simp only[bH,bne_iff_ne,ne_eq]
    exact λe=>this (by simp_all)
   {rw[W6 _ (by grind [aP])];exact ih _ (Nat.div_lt_self (by omega) (by decide))}
theorem eP (l:List UInt32)(x:UInt32):bH (l++[x])=(x != 0):=by
 induction l with
 |nil=>rfl| cons y l ih=>rw[List.cons_append,W6 _ (by simp),ih]
theorem VW (l:List UInt32):val (l++[0])=val l:=by rw[vL];simp[val]
theorem YU:∀ {a b:List UInt32},a.length=b.length->val a=val b->a=b
 |[],[],_,_=>rfl| x::a,y::b,hl,hv=>by
  (simp only[val] at hv;have hx:=yM x;have hy:=yM y;have h1:x.toNat=y.toNat:=by have:=congrArg (· % B) hv;grind [Nat.add_mul_mod_self_left,Nat.mod_eq_of_lt]);have h2:val a=val b:=by rw[h1] at hv;exact Nat.eq_of_mul_eq_mul_left w8 (Nat.add_left_cancel hv)
  rw[UInt32.toNat_inj.1 h1,YU (by grind) h2]
 |[],y::b,hl,_=>by grind| x::a,[],hl,_=>by grind
theorem yF {n k:Nat}(h:n<B^k):(zJ n).length<=k:=by
 induction k generalizing n with
 |zero =>
  grind [y4]
 |succ k ih =>
  by_cases h0:n=0;{grind}
  ·(rw[aP h0,List.length_cons];have:n/B<B^k:=by rw[Nat.div_lt_iff_lt_mul w8];grind);grind
theorem z7 (l:List UInt32):(zJ (val l)).length<=l.length:=yF (x5 l)
theorem YQ {n k:Nat}(h:B^k<=n):k<(zJ n).length:=by rcases Nat.lt_or_ge k (zJ n).length with h'|h';{exact h'};{have h1:=x5 (zJ n);rw[zR] at h1;have:B^(zJ n).length<=B^k:=Nat.pow_le_pow_right w8 h';omega}
theorem wA {n:Nat}:zJ n=[]↔n=0:=by constructor;{intro h;have:=zR n;rw[h] at this;exact this.symm};{intro h;subst h;exact y4}
theorem aK (l:List UInt32){n:Nat}(h:n<l.length):l.take (n+1)=l.take n++[l.getD n 0]:=by simp_all
theorem nZ (l:List UInt32){m:Nat}(h:m<l.length):val l=val (l.take m)+B^m*((l.getD m 0).toNat+B*val (l.drop (m+1))):=by
 have e:l=l.take m++(l.getD m 0::l.drop (m+1)):=by simp_all
 have hl:(l.take m).length=m:=by grind
 calc val l=val (l.take m++(l.getD m 0::l.drop (m+1))):=by grind
  _=_:=by rw[vL,hl];rfl
theorem w5 (l:List UInt32)(m:Nat):val (l.take m)<B^m:=by
 have h1:=x5 (l.take m);have h2:(l.take m).length<=m:=by grind
 exact Nat.lt_of_lt_of_le h1 (Nat.pow_le_pow_right w8 h2)
theorem AO {a b:List UInt32}{m:Nat}(ha:m<a.length)(hb:m<b.length)(hd:a.drop (m+1)=b.drop (m+1))(h:(a.getD m 0).toNat<(b.getD m 0).toNat):val a<val b:=by
 rw[nZ a ha,nZ b hb,hd];have h1:=w5 a m;have h2:(a.getD m 0).toNat+1+B*val (b.drop (m+1))<=(b.getD m 0).toNat+B*val (b.drop (m+1)):=by omega
 have h3:=Nat.mul_le_mul_left (B^m) h2;grind
theorem Zx {n m:Nat}(h:(zJ n).length<(zJ m).length):n<m:=by have h1:=x5 (zJ n);rw[zR] at h1;rcases Nat.lt_or_ge n m with h'|h';{exact h'};{have h2:=yF (Nat.lt_of_le_of_lt h' h1);omega}
def qQ (a b:Nat):Int:=if a<b then -1 else if b<a then 1 else 0
theorem Y7 {a b:Nat}(h:a<b):qQ a b=-1:=by simp[qQ,h]
theorem Y8 {a b:Nat}(h:b<a):qQ a b=1:=by simp[qQ,h,Nat.not_lt.2 (Nat.le_of_lt h)]
theorem Q8 (a:Nat):qQ a a=0:=by simp[qQ]
theorem Kt (l:List UInt32)(x:UInt32):val (l++[x])=val l+B^l.length*x.toNat:=by rw[vL];simp[val]
theorem iH (l:List UInt32){n:Nat}(h:n<l.length):val (l.take (n+1))=val (l.take n)+B^n*(l.getD n 0).toNat:=by grind [aK,Kt]
theorem z6 (l:List UInt32)(n:Nat):val (l.take (n+1))=val (l.take n)+B^n*(l.getD n 0).toNat:=by rcases Nat.lt_or_ge n l.length with h|h;{exact iH l h};{rw[List.take_of_length_le (by omega),List.take_of_length_le h];simp_all}
theorem qC (l:List UInt32){n:Nat}(h:n<l.length)(x:UInt32):val ((l.set n x).take (n+1))=val (l.take n)+B^n*x.toNat:=by rw[iH _ (by grind)];congr 2;{rw[List.take_set_of_le (Nat.le_refl _)]};grind
theorem xY (n:Nat):(UInt32.ofNat n).toNat=n%B:=by rw[UInt32.toNat_ofNat'];rfl
theorem rD (l:List UInt32){j:Nat}(h:j<l.length)(x:UInt32):val (l.set j x)+B^j*(l.getD j 0).toNat=val l+B^j*x.toNat:=by
 have hs:j<(l.set j x).length:=by grind
 rw[nZ l h,nZ (l.set j x) hs];have e1:(l.set j x).take j=l.take j:=List.take_set_of_le (Nat.le_refl _);have e2:(l.set j x).drop (j+1)=l.drop (j+1):=by rw[List.drop_set_of_lt (by omega)]
 grind
theorem gW (n:Nat):val (List.replicate n 0)=0:=by
 induction n with
 |zero=>rfl| succ n ih=>simp[List.replicate_succ,val,ih]
theorem tP (l:List UInt32)(j k:Nat)(x:UInt32)(h:j≠k):(l.set j x).getD k 0=l.getD k 0:=by grind
end Go.Proofs.YtaeaffgjdcigoaaGreat
namespace Go.Proofs.YtaeaffgjdcigoaaGreat
open Go
set_option maxRecDepth 100000
theorem b9 (l:List UInt32)(hl:l.length<2^44):zD 265 [nat l] (nat (zJ (val l))):=by
 refine sF Tryz.f265 ?_;cbv;refine zW (σ:=Nat) (λn=>⟨[(0,nat l),(2,.nil),(3,iV n)],[]⟩) (λn=>n<=l.length/\val (l.take n)=val l) (λn=>n) l.length ⟨yD _,by simp⟩ (.le ?_ trivial rfl) ?_;{cbv;exact⟨lR,lR,zB (by simp[zI]),trivial⟩};intro n hn;cbv;refine zQ (λh=>?_) (λh=>?_)
 ·(try dsimp only [zY] at *)
  obtain⟨m,rfl⟩:∃ m,n=m+1:=⟨n-1,by omega⟩;cbv;refine⟨zC om om,xG m om om ?_⟩;cbv;refine zE (λh2=>?_) (λh2=>?_)
  ·cbv;refine⟨zC om om,m,⟨om,?_⟩,om,.le ?_ trivial rfl⟩
   ·(have e:l.getD m 0=0:=by have:(l.getD m 0).toNat=0:=om;exact ZD.1 this);grind [aK,VW]
   {cbv;exact⟨lR,lR,zB om,trivial⟩}
  ·(cbv;refine zE (λh3=>om) (λh3=>?_);cbv;refine⟨uT om om om,eD l,?_⟩;cbv;refine j7 rfl ?_ rfl;refine zS ?_;have e:l.getD m 0≠0:=λe=>by (try dsimp only [zY] at *);simp_all);grind [Ft,lN,aK,eP]
 {cbv;refine zE (λh3=>?_) (λh3=>om);cbv;refine j7 rfl ?_ rfl;refine yX ?_;have:n=0:=om;subst this;rw[<-hn.2];simp[val,y4,lm]}
theorem TV:ty 32=.sli 1 4 [.int .u32 (λ_=>0)]:=by cbv
theorem Oz (l:List UInt32)(hl:l.length<2^40):zD 300 [nat l] (nat l):=by refine sF Tryz.f300 ?_;cbv;refine⟨λb hb=>?_⟩;cbv;refine zP (λh=>?_) (λh=>?_);{cbv;refine j7 rfl ?_ rfl;exact yX (hb h)};{cbv;refine wM TV rfl rfl rfl rfl rfl (eD l) (z5 om (by simp only[iS];(try dsimp only [zY] at *) <;> (try simp only[zI] at *) <;> omega)) rfl ?_;cbv;refine MF (.frz 7 rfl rfl ?_ ?_) rfl ?_ rfl;{cbv;exact⟨z8 (by simp),z8 (by simp),trivial⟩};{exact trivial};{refine zS ?_;simp}}
theorem C1 (l:List UInt32)(hl:l.length<2^40):zD 283 [nat l] (nat (zJ (val l))):=by refine sF Tryz.f283 ?_;cbv;refine cA (b9 l oM) ?_;cbv;refine cA (Oz _ (xF (z7 l) hl)) ?_;cbv;refine j7 rfl ?_ rfl;exact lR
theorem tX {l:List UInt32}(h:l≠[]):bH l=(l.getD (l.length-1) 0 != 0):=by
 have:l=l.dropLast++[l.getD (l.length-1) 0]:=by rw[fK,<-List.getLast?_eq_getElem?,List.getLast?_eq_some_getLast h];exact (List.dropLast_concat_getLast h).symm
 grind [eP]
theorem Sr (x:UInt32):(x != 0)=!decide ((x.toNat:Int)=0):=by rw[rS];simp only[bne_iff_ne,ne_eq,Vq,decide_eq_false_iff_not];constructor;{intro h e;exact h (ZD.1 (by grind))};{intro h e;simp_all}
theorem OM (l:List UInt32)(hl:l.length<2^40):zD 223 [nat l] (bV (bH l)):=by
 refine sF Tryz.f223 ?_;cbv;refine zQ (λh=>?_) (λh=>?_);{cbv;refine j7 rfl ?_ rfl;refine yH ?_;have:l=[]:=j3 om;subst this;rfl}
 ·(cbv;refine⟨zC om om,xG (l.length-1) om om ?_⟩;cbv;refine j7 rfl ?_ rfl;refine vM ?_;have hne:l≠[]:=λe=>by subst e;exact h rfl);rw[tX hne]
  exact Sr _
theorem Rt (x:Nat)(hx:x<B*B):zD 270 [.int .u64 (λ_=>(x:Int))] (nat (zJ x)):=by
 refine sF Tryz.f270 ?_;cbv;refine⟨v8 oM,?_⟩;refine yP rfl (by
  (refine⟨zS ?_,trivial⟩;have h1:ishr .u64 (x:Int) 32=((x/B:Nat):Int):=by unfold ishr;simp[IntKind.bits,B,Sc]);have h2:x/B<B:=Nat.div_lt_of_lt_mul hx;simp only[zL,xE,toD,lm,jB,Vn,zY,h1,gT,aN];grind [UInt32.toNat_ofNat',B]) (b9 [UInt32.ofNat (x%B),UInt32.ofNat (x/B)] (by simp)) rfl ?_
 cbv;refine j7 rfl ?_ rfl;refine zS ?_;have h2:x/B<B:=Nat.div_lt_of_lt_mul hx;have:val [UInt32.ofNat (x%B),UInt32.ofNat (x/B)]=x:=by simp only[val,aN];rw[UInt32.toNat_ofNat',qY (show x/B<2^32 from h2),Nat.mul_zero,VS];exact Vm x B
 rw[this]
theorem HL (a b:List UInt32)(ha:a.length<2^40)(hb:b.length<2^40):zD 225 [nat a,nat b] (iV (qQ (val a) (val b))):=by
 refine sF Tryz.f225 ?_;cbv;refine cA (b9 a oM) ?_;cbv;refine cA (b9 b oM) ?_;cbv;have ha':=xF (z7 a) ha;have hb':=xF (z7 b) hb;refine zE (λh=>?_) (λh=>?_)
 ·cbv;have hl:(zJ (val a)).length=(zJ (val b)).length:=om;refine⟨zC om om,?_⟩;refine zW (σ:=Nat) (λn=>⟨[(0,nat (zJ (val a))),(1,nat (zJ (val b))),(5,iV ((n:Int)-1))],[]⟩) (λn=>n<=(zJ (val a)).length/\(zJ (val a)).drop n=(zJ (val b)).drop n) (λn=>n) (zJ (val a)).length ⟨yD _,by simp[hl]⟩ (.le ?_ trivial rfl) ?_;{cbv;exact⟨lR,lR,zB (by (try dsimp only [zY] at *) <;> (grind [zI]) <;> omega),trivial⟩};intro n hn;cbv;refine zE (λh2=>?_) (λh2=>?_)
  ·(try dsimp only [zY] at *)
   obtain⟨m,rfl⟩:∃ m,n=m+1:=⟨n-1,by omega⟩;cbv;refine zM 9 (by cbv) ?_;cbv;refine xG m om om ?_;cbv;refine xG m om om ?_;cbv;refine zE (λh3=>?_) (λh3=>?_)
   ·cbv;refine⟨zC om om,m,⟨om,?_⟩,om,.le ?_ trivial rfl⟩
    ·(try dsimp only [zY] at *)
     grind [UInt32.toNat_inj,List.drop_eq_getElem_cons]
    {cbv;exact⟨lR,lR,zB om,trivial⟩}
   {cbv;refine zM 9 (by cbv) ?_;cbv;refine xG m om om ?_;cbv;refine xG m om om ?_;cbv;refine zE (λh4=>?_) (λh4=>?_);{cbv;refine j7 rfl ?_ rfl;refine zB ?_;have:=AO (a:=zJ (val a)) (b:=zJ (val b)) (m:=m) om om hn.2 om;rw[zR,zR] at this;rw[Y7 this]};{cbv;refine j7 rfl ?_ rfl;refine zB ?_;have:=AO (a:=zJ (val b)) (b:=zJ (val a)) (m:=m) om om hn.2.symm om;rw[zR,zR] at this;rw[Y8 this]}}
  ·(cbv;refine j7 rfl ?_ rfl;refine zB ?_;have h0:n=0:=om;subst h0;have e:zJ (val a)=zJ (val b):=by grind);have:val a=val b:=by grind [zR]
   rw[this,Q8]
 {cbv;refine zE (λh2=>?_) (λh2=>?_);{cbv;refine j7 rfl ?_ rfl;refine zB ?_;rw[Y7 (Zx om)]};{cbv;refine j7 rfl ?_ rfl;refine zB ?_;rw[Y8 (Zx om)]}}
theorem BQ (l:List UInt32)(i:Nat)(x:UInt32):(lm l).set i [.int .u32 x.toNat]=lm (l.set i x):=by simp[lm,List.map_set]
theorem sQ (n:Nat):ishr .u64 (n:Int) 32=((n/B:Nat):Int):=by unfold ishr;simp[IntKind.bits,B,Sc]
theorem fF (out:List UInt32){k j:Nat}(hk:k=j)(d:Nat):(lm out).set k [.int .u32 (nx .u32 ((d:Nat):Int))]=lm (out.set j (UInt32.ofNat d)):=by subst hk;rw[<-BQ,xY,gT];simp[B]
theorem OD (a b:List UInt32)(ha:a.length<2^40)(hb:b.length<2^40):zD 308 [nat a,nat b] (nat (zJ (val a+val b))):=by
 refine sF Tryz.f308 ?_;cbv;refine cA (b9 a oM) ?_;cbv;refine cA (b9 b oM) ?_;cbv;have ha':=xF (z7 a) ha;have hb':=xF (z7 b) hb;refine gD (σ:=List UInt32×List UInt32) (λs=>⟨[(0,nat s.1),(1,nat s.2),(4,.nil)],[]⟩) (λs=>s.2.length<=s.1.length/\s.1.length<2^40/\val s.1+val s.2=val a+val b) (λh=>?_) (λh=>?_) ?_;{cbv;refine⟨(zJ (val b),zJ (val a)),⟨om,hb',by grind [zR]⟩,.le ?_ trivial rfl⟩;cbv;exact okA};{cbv;refine⟨(zJ (val a),zJ (val b)),⟨om,ha',by simp only[zR]⟩,.le ?_ trivial rfl⟩;cbv;exact okA};intro s hs;obtain⟨hpq,hp,hv⟩:=hs;generalize s.1=p at *;generalize s.2=q at *;cbv;refine⟨zC om om,z5 om om,kX om om,?_⟩;cbv;refine zW (σ:=Nat×Nat×List UInt32) (λs=>⟨[(0,nat p),(1,nat q),(5,oV 23 1 (p.length+1)),(6,.int .u64 (λ_=>(s.2.1:Int))),(24,nat p),(25,iV p.length),(26,iV s.1)],[(23,aV 1 (lm s.2.2))]⟩)
  (λs=>s.1<=p.length/\s.2.1<2/\s.2.2.length=p.length+1/\val (s.2.2.take s.1)+B^s.1*s.2.1=val (p.take s.1)+val (q.take s.1)) (λs=>p.length-s.1)
  (0,0,List.replicate (p.length+1) 0) ⟨om,om,by simp,by simp[val]⟩ (.le ?_ ?_ rfl) ?_
 {cbv;exact⟨lR,lR,zZ rfl om,lR,lR,zB (by (try dsimp only [zY] at *) <;> (grind [zI]) <;> omega),lR,trivial⟩}
 ·(cbv;refine⟨zH ?_,trivial⟩;show List.replicate (((lm p).length:Int)+1).toNat _=_;have:(((lm p).length:Int)+1).toNat=p.length+1:=by grind [zI]);rw[this]
  simp[lm,xE,toD]
 intro s hs;obtain⟨h1,h2,h3,h4⟩:=hs;generalize s.1=i at *;generalize s.2.1=c at *;generalize s.2.2=out at *;cbv;refine zE (λh5=>?_) (λh5=>?_)
 ·cbv;refine xG i (by (grind) <;> (try simp only[zI] at *) <;> omega) om ?_;cbv;have hpi:=yM (p.getD i 0);have hqi:=yM (q.getD i 0);simp only[B] at hpi hqi;refine gD (σ:=Unit) (λ_=>⟨[(0,nat p),(1,nat q),(5,oV 23 1 (p.length+1)),(6,.int .u64 (λ_=>((c+(p.getD i 0).toNat+(q.getD i 0).toNat:Nat):Int))),(7,iV i),(24,nat p),(25,iV p.length),(26,iV i)],[(23,aV 1 (lm out))]⟩) (λ_=>True) (λh6=>?_) (λh6=>?_) ?_
  ·cbv;refine xG i (by (grind) <;> (try simp only[zI] at *) <;> omega) om ?_;cbv;refine⟨(),trivial,.le ?_ ?_ rfl⟩
   ·cbv;refine⟨lR,lR,lR,zB ?_,lR,lR,lR,lR,trivial⟩
    (try dsimp only [zY] at *)
    grind [uH]
   {cbv;exact⟨zH rfl,trivial⟩}
  ·cbv;refine⟨(),trivial,.le ?_ ?_ rfl⟩
   ·cbv;refine⟨lR,lR,lR,zB ?_,lR,lR,lR,lR,trivial⟩;have:(q.getD i 0).toNat=0:=by have:q.length<=i:=om;simp_all
    (try dsimp only [zY] at *)
    grind [uH]
   {cbv;exact⟨zH rfl,trivial⟩}
  intro _ _;generalize hd:c+(p.getD i 0).toNat+(q.getD i 0).toNat=d;cbv;refine⟨yZ om om,j9 i (by simp) om ?_⟩;cbv;refine⟨v8 oM,zC om om,(i+1,d/B,out.set i (UInt32.ofNat d)),⟨om,?_,by grind,?_⟩,om,.le ?_ ?_ rfl⟩;{grind [B]}
  ·(show val ((out.set i (UInt32.ofNat d)).take (i+1))+B^(i+1)*(d/B)=val (p.take (i+1))+val (q.take (i+1));rw[qC _ om,z6 p,z6 q,xY];have e1:B^i*(d%B)+B^(i+1)*(d/B)=B^i*d:=by rw[uC,gF,<-qO,Vm]);grind
  {cbv;refine⟨lR,lR,lR,zB (sQ d),lR,lR,zB om,trivial⟩};{cbv;exact⟨zH (fF out (by simp) d),trivial⟩}
 {cbv;refine⟨yZ om om,j9 p.length (by simp[zI]) om ?_⟩;cbv;have hi:i=p.length:=om;subst hi;refine qF (.trans (.le (ps':=⟨[(60,oV 23 1 (p.length+1))],[(23,aV 1 (lm (out.set p.length (UInt32.ofNat c))))]⟩) ?_ ?_ rfl) (.frz 23 rfl rfl ?_ ?_)) rfl (by refine⟨zS ?_,trivial⟩;grind [zI]) (b9 (out.set p.length (UInt32.ofNat c)) (by grind)) rfl ?_;{cbv;exact okA};{cbv;exact⟨zH (fF out (by simp[zI]) c),trivial⟩};{cbv;exact⟨z8 (by grind [zI]),trivial⟩};{exact trivial};cbv;refine j7 rfl ?_ rfl;refine zS ?_;congr 2;have e:=qC out (n:=p.length) oM (UInt32.ofNat c);rw[yW (by grind),xY,qY (show c<B by grind [B]),h4,yW (yD _),yW hpq] at e;omega}
end Go.Proofs.YtaeaffgjdcigoaaGreat
