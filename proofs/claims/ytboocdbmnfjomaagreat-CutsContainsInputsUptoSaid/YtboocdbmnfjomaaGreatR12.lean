/- A part of the proof: PmP. -/
import Derived.Test.YtboocdbmnfjomaaGreatR11
set_option linter.all false
namespace Go.Proofs.YtboocdbmnfjomaaGreat
open Go
def p8 (L:Nat->Prop) (o:Oper):Prop:=∀ e,e∈o.after.toList->Region.binds .any e=true->L e.on
theorem Gx {acc:List Nat}{o:Oper}{j:Nat}(h:(eO acc o).testBit j=true):∃ e,e∈o.after.toList/\Region.binds .any e=true/\(e.on=j\/(acc.getD e.on 0).testBit j=true):=by
 unfold eO at h;have gen:∀ (l:List Edge) (s:Nat),(l.foldl (λs e=>if Region.binds .any e then s ||| (2^e.on ||| acc.getD e.on 0) else s) s).testBit j=true->s.testBit j=true\/∃ e,e∈l/\Region.binds .any e=true/\(e.on=j\/(acc.getD e.on 0).testBit j=true):=by
  intro l;induction l with
  |nil=>grind| cons e l ih =>
   intro s h;simp only[List.foldl_cons] at h;rcases ih _ h with h1|⟨e',h1,h2⟩
   ·by_cases hb:Region.binds .any e=true
    all_goals grind
   grind
 grind
theorem Sj {L:Nat->Prop}{ops:List Oper}(hL:∀ i o,ops[i]?=some o->L i->p8 L o):∀ (r done:List Oper) (acc:List Nat),ops=done++r->acc.length=done.length ->(∀ i o j,i<acc.length->ops[i]?=some o->p8 L o->(acc.getD i 0).testBit j=true->L j) ->∀ i o j,ops[i]?=some o->p8 L o->((Sk r acc).getD i 0).testBit j=true->L j
 |[],done,acc,he,hl,h,i,o,j,hi,hE,hb=>by refine h i o j ?_ hi hE hb;grind| x::r,done,acc,he,hl,h,i,o,j,hi,hE,hb=>by
  refine Sj hL r (done++[x]) (acc++[eO acc x]) (by simp[he]) (by simp[hl]) ?_ i o j hi hE hb;intro i o j hlt hi hE hb;by_cases h1:i<acc.length
  ·(have:(acc++[eO acc x]).getD i 0=acc.getD i 0:=by grind);grind
  ·(have h2:i=acc.length:=by grind);subst h2
   (have:(acc++[eO acc x]).getD acc.length 0=eO acc x:=by simp);rw[this] at hb
   (have hx:ops[acc.length]?=some x:=by grind);rw[hx] at hi
   (cases hi;obtain⟨e,h3,h4,h5⟩:=Gx hb;have hLe:=hE e h3 h4;rcases h5 with h5|h5);{grind}
   ·by_cases h6:e.on<acc.length
    ·(have hlo:e.on<ops.length:=by grind);have ho:ops[e.on]?=some ops[e.on]:=uZ hlo
     grind
    ·(have:acc.getD e.on 0=0:=by simp only[wK];grind);grind
theorem wB {L:Nat->Prop}{ops:List Oper}(hL:∀ i o,ops[i]?=some o->L i->p8 L o){i j:Nat}{o:Oper}(hi:ops[i]?=some o)(hE:p8 L o)(hb:((anc ops).getD i 0).testBit j=true):L j :=
 Sj hL ops [] [] rfl rfl (λi o j h=>by simp at h) i o j hi hE hb
def unl (L:Array Bool):Nat->Nat
 |0=>0| n+1=>unl L n+(if L.getD n true=true then 0 else 1)
theorem Xq {L:Array Bool}{i:Nat}:∀ {n:Nat},n<=i->unl (L.setIfInBounds i true) n=unl L n
 |0,_=>rfl| n+1,h=>by simp only[unl];rw[Xq oM,getD_set_ne true oM]
theorem YX {L:Array Bool}{i:Nat}(hi:L.getD i true=false):∀ {n:Nat},i<n->unl (L.setIfInBounds i true) n+1=unl L n
 |0,h=>by omega| n+1,h=>by
  simp only[unl];by_cases e:i=n
  ·(subst e;have hs:i<L.size:=by grind);rw[Xq (yX _),hi]
   simp_all
  {have:=YX hi (n:=n) oM;rw[getD_set_ne true e];omega}
theorem oI {L:Array Bool}:∀ {n:Nat},unl L n=0->∀ i,i<n->L.getD i true=true
 |0,_,i,h=>by omega| n+1,h0,i,h=>by simp only[unl] at h0;by_cases e:i=n;{grind};{exact oI (n:=n) oM i oM}
theorem v8 {L:Array Bool}{i:Nat}(hi:i<L.size)(d e:Bool):L.getD i d=L.getD i e:=by simp[hi]
section
variable {w0:World} {S0:Nat->Nat->Prop} {K0:Nat->Prop} {N:Cx}
structure DrawOk (ops:List Oper) (k:Nat):Prop where
 dst:dU (ops.take k)=true
 look:∀ i o t j oj,i<k->j<k->ops[i]?=some o->ops[j]?=some oj->t∈qY ops o->oj.dst=some t->(j<i/\((anc ops).getD i 0).testBit j=true)\/(i<j/\((anc ops).getD j 0).testBit i=true)
 full:∀ i,i<k->∃ o,ops[i]?=some o
 back:∀ i o,ops[i]?=some o->∀ e,e∈o.after.toList->Region.binds .any e=true->e.on<i
 rest:∀ i j,i<ops.length->k<=i->j<i->((anc ops).getD i 0).testBit j=true
theorem nH {ops:List Oper}{k:Nat}(h:fO ops k=true):DrawOk ops k:=by simp only[fO,yS,gH,pZ] at h;obtain⟨⟨⟨h1,h2⟩,h3⟩,h4⟩:=h;refine⟨h1,?_,?_,?_,?_⟩;{intro i o t j oj hi hj ho hoj ht hd;have:=h2 i hi;simp only[ho,gH,pZ] at this;have:=this t ht j hj;simp only[hoj,hd,BEq.rfl,Bool.not_true,rU,Vw,yS,decide_eq_true_eq] at this;omega};{grind};{grind};grind
structure At (ops:List Oper) (k:Nat) (pvs:List PV) (τ0:Nat->PV) (L:Nat->Prop) (τ:Nat->PV):Prop where
 hit:∀ j o t pv,j<k->L j->ops[j]?=some o->pvs[j]?=some pv->o.dst=some t->τ t=pv
 miss:∀ t,(∀ j o,j<k->L j->ops[j]?=some o->o.dst≠some t)->τ t=τ0 t
theorem At.step {ops:List Oper}{k:Nat}{pvs:List PV}{τ0:Nat->PV}{L L':Nat->Prop}{τ:Nat->PV}(D:DrawOk ops k)(h:At ops k pvs τ0 L τ){i:Nat}{o:Oper}{pv:PV}(hi:i<k)(ho:ops[i]?=some o)(hp:pvs[i]?=some pv) (hL':∀ j,L' j↔L j\/j=i):At ops k pvs τ0 L' (upd τ o.dst pv):=by
 have hne:∀ j oj t,j<k->ops[j]?=some oj->oj.dst=some t->o.dst=some t->j=i:=λj oj t hj hoj hd hd' =>
  pW D.dst (by grind) (by grind) hd hd'
 refine⟨λj oj t pv' hj hLj hoj hpj hd=>?_,λt ht=>?_⟩
 ·by_cases hji:j=i;{subst hji;rw[ho] at hoj;cases hoj;rw[hp] at hpj;cases hpj;simp[upd,hd]}
  ·have hLj':=((hL' j).1 hLj).resolve_right hji;rw[<-h.hit j oj t pv' hj hLj' hoj hpj hd];cases hd':o.dst with
   |none=>rfl| some d =>
    grind [upd]
 ·have h1:τ t=τ0 t:=h.miss t λj oj hj hLj hoj=>ht j oj hj ((hL' j).2 (.inl hLj)) hoj;rw[<-h1];cases hd':o.dst with
  |none=>rfl| some d =>
   have:t≠d:=λe=>ht i o hi ((hL' i).2 (.inr rfl)) ho (by grind);grind [upd]
theorem At.text {ops:List Oper}{k:Nat}{pvs:List PV}{τ0:Nat->PV}(D:DrawOk ops k)(hl:pvs.length=(ops.take k).length)(i:Nat)(hi:i<=k):At ops k pvs τ0 (λj=>j<i) (uN ((ops.take k).take i) (pvs.take i) τ0):=by
 have htt:(ops.take k).take i=ops.take i:=by grind
 have hdo:dU (ops.take i)=true:=by rw[<-htt];exact YH i D.dst
 refine⟨λj o t pv hj hLj ho hp hd=>?_,λt ht=>?_⟩;{rw[htt];exact Kx hdo (by rw[u5 hLj];exact ho) (by grind) hd};grind [VY]
theorem At.same {ops:List Oper}{k:Nat}{pvs:List PV}{τ0:Nat->PV}{L L':Nat->Prop}{τ τ':Nat->PV}(D:DrawOk ops k)(hlen:k<=pvs.length)(h:At ops k pvs τ0 L τ)(h':At ops k pvs τ0 L' τ'){t:Nat}(ht:∀ j o,j<k->ops[j]?=some o->o.dst=some t->(L j/\L' j)\/(¬L j/\¬L' j)):τ t=τ' t:=by
 by_cases hx:∃ j o,j<k/\ops[j]?=some o/\o.dst=some t
 ·obtain⟨j,o,hj,ho,hd⟩:=hx;rcases ht j o hj ho hd with⟨h1,h2⟩|⟨h1,h2⟩;{have hp:pvs[j]?=some pvs[j]:=uZ oM;rw[h.hit j o t _ hj h1 ho hp hd,h'.hit j o t _ hj h2 ho hp hd]}
  ·have key:∀ j' o',j'<k->ops[j']?=some o'->o'.dst=some t->j'=j:=λj' o' hj' ho' hd' =>
    pW D.dst (by grind) (by grind) hd' hd
   rw[h.miss t λj' o' hj' hL ho' hd'=>h1 (key j' o' hj' ho' hd' ▸ hL),h'.miss t λj' o' hj' hL ho' hd'=>h2 (key j' o' hj' ho' hd' ▸ hL)]
 {rw[h.miss t λj o hj _ ho hd=>hx ⟨j,o,hj,ho,hd⟩,h'.miss t λj o hj _ ho hd=>hx ⟨j,o,hj,ho,hd⟩]}
section
variable {a:Act} {w:World} {S:Nat->Nat->Prop} {β:Bm}
theorem Sim.newObjG {τ:Nat->PV}{objs:List (Nat×Obj')}{w':World}(h:Sim w0 S0 K0 N τ objs a w S β){n b:Nat}{o:Obj'}(hn:n<1000000)(hT:∀ t,xN n (τ t)=true)(hO:∀ {m x},(m,x)∈objs->m≠n/\bM n x)(l:Leads w S qR w' S)(hb:w.heap.size<=b)(hb':b<w'.heap.size) (hat:ObjAt w' S (jB β n (some b)) n o) (hr:∀ i,¬vM o i:=by intro _ hi;exact hi):Sim w0 S0 K0 N τ (objs++[(n,o)]) a w' S (jB β n (some b)):=by
 have hmem:∀ {m x},(m,x)∈objs++[(n,o)]->((m,x)∈objs/\m≠n)\/(m=n/\x=o):=by grind
 have hg:=h.go l;refine⟨h.dfr,h.sz,hg.ld,λt=>(hg.tmp t).upd (hT t),⟨?_,?_,?_,?_⟩,?_,?_⟩;{rw[jQ,iR];refine⟨h.obj.nd,by simp,?_⟩;grind};{intro m x hm;rcases hmem hm with⟨h1,h2⟩|⟨rfl,rfl⟩;{exact (hg.obj.at_ m x h1).upd h2 (hO h1).2};omega};{intro m x c hm hβ;rcases hmem hm with⟨h1,h2⟩|⟨rfl,rfl⟩;{exact hg.obj.un m x c h1 (vI h2 hβ)};{have hβ:=xH hr hβ;rw[xA] at hβ;cases hβ;exact⟨λi hS=>by have:=h.ld.bnd b i hS;omega,hb'⟩}};{intro m x m' x' c hm hm' hβ hβ';rcases hmem hm with⟨h1,h2⟩|⟨rfl,rfl⟩;{rcases hmem hm' with⟨h3,h4⟩|⟨rfl,rfl⟩;{exact hg.obj.inj _ _ _ _ c h1 h3 (vI h2 hβ) (vI h4 hβ')};{have hβ':=xH hr hβ';rw[xA] at hβ';cases hβ';have:=(h.obj.un m x b h1 (vI h2 hβ)).2;omega}};{rcases hmem hm' with⟨h3,h4⟩|⟨rfl,rfl⟩;{have hβ:=xH hr hβ;rw[xA] at hβ;cases hβ;have:=(h.obj.un m' x' b h3 (vI h4 hβ')).2;omega};{rfl}}};{intro m x c hm hβ;rcases hmem hm with⟨h1,h2⟩|⟨rfl,rfl⟩;{exact h.own m x c h1 (vI h2 hβ)};{have hβ:=xH hr hβ;rw[xA] at hβ;cases hβ;have:=h.ld.size;omega}};{intro m x hm hb2;rcases hmem hm with⟨h1,h2⟩|⟨rfl,rfl⟩;{rw[wQ h2];exact h.keep m x h1 hb2};{omega}}
theorem Ks {Q:List PV->Prop}{t:TypeId}(hno:(ty t).isNo=false)(h0:Q [])(hc:∀ v l,Q l->Q (wT v::l))(hn:Q [.nil]):Q (ty t).zero:=by
 cases hty:ty t with
 |no=>grind [Ty.isNo]| sc z=>obtain⟨_,_,zv',_,_,_,_,_,_,h7,_⟩:=Xs hty;rw[h7];exact hc _ _ h0
 |st n fs z =>
  obtain⟨_,_,zs,_,_,_,_,_,_,h7,_⟩:=Xr hty;rw[h7];simp only[Ty.zero];generalize zs.toList=l;induction l with
  |nil=>exact h0| cons x l ih=>exact hc _ _ ih
 |arr len n ag z =>
  obtain⟨_,_,zs,_,_,_,_,_,_,_,_,_,_,h7⟩:=iS hty;rw[h7];simp only[Ty.zero];generalize zs.toList=l;induction l with
  |nil=>exact h0| cons x l ih=>exact hc _ _ ih
 |sli n b z=>exact hn
theorem VR {d:Nat}{t:TypeId}(hno:(ty t).isNo=false):wM d (ty t).zero=true :=
 Ks (Q:=λl=>wM d l=true) hno rfl (λv l ih=>by simp only[wM,y4,yS];exact⟨by unfold wT;split <;> rfl,ih⟩) rfl
theorem LX {o:Oper}{d:Nat}{x:Obj'}{τ:Nat->PV}{objs:List (Nat×Obj')}{Km:Act->World->Prop}{Q:Exit->Act->World->Prop}(hm:vK o=some (d,x))(hd:mG N o=true)(h:Sim w0 S0 K0 N τ objs a w S β) (hn:d<1000000) (hT:∀ t,xN d (τ t)=true) (hO:∀ {m y},(m,y)∈objs->m≠d/\bM d y) (hk:∀ a' w' β',Sim w0 S0 K0 N (upd τ o.dst (.ptr d 0)) (objs++[(d,x)]) a' w' S β'->Km a' w'):o.wp Pg a w Km Q:=by
 obtain⟨hg,hod,t,hop,hno,rfl⟩:=fJ hm;obtain⟨i,zv,h1,h2,h3⟩:=GE (w:=w) (S:=S) (β:=β) hno;have hz:wM d (ty t).zero=true:=VR hno;have l:=vZ (w:=w) h.ld.bnd (.cells zv.cells t);have hnw:=h.newObjG (w':=w.alloc (.cells zv.cells t)) (b:=w.heap.size) (o:=.box (ty t).zero) hn hT hO l (yX _) (by simp) ⟨w.heap.size,zv.cells,t,xA,heap_alloc_new w _,h3.1,λj hj =>
  ((h3.2 j hj).evo (l.evo h.ld.bnd) (l.subs h.ld.bnd)).upd (xU rfl hz j)⟩
 refine kE (v:=.pointer (some ⟨w.heap.size,0,none⟩)) (w':=w.alloc (.cells zv.cells t)) ?_ ?_;{simp[execOp,hop,Instr.alloc,pD h1 h2,newVar,newRow]};{exact hk _ _ _ (hnw.put o.dst (pX hd) (.ptr xA))}
theorem Sim.perm {τ:Nat->PV}{objs objs':List (Nat×Obj')}(h:Sim w0 S0 K0 N τ objs a w S β)(hm:∀ x,x∈objs'↔x∈objs)(hnd:(objs'.map Prod.fst).Nodup):Sim w0 S0 K0 N τ objs' a w S β :=
 ⟨h.dfr,h.sz,h.ld,h.tmp,⟨hnd,λn o hx=>h.obj.at_ n o ((hm _).1 hx),λn o b hx=>h.obj.un n o b ((hm _).1 hx),λn o m o' b hx hy=>h.obj.inj n o m o' b ((hm _).1 hx) ((hm _).1 hy)⟩,
  λn o b hx=>h.own n o b ((hm _).1 hx),λn o hx=>h.keep n o ((hm _).1 hx)⟩
theorem uK:∀ {l:List (Nat×Obj')} {n:Nat} {o:Obj'},(l.map Prod.fst).Nodup->(n,o)∈l->yK l n=some o
 |[],n,o,_,h=>by simp at h| (u,v)::r,n,o,hnd,h=>by simp only[j3,Vr] at hnd;simp only[yR] at h;unfold yK;rcases h with h|h;{simp_all};{have:u≠n:=λe=>hnd.1 (by grind);rw[H2 this];exact uK hnd.2 h}
end
theorem iX {o:Oper}{τ:Nat->PV}{objs:List (Nat×Obj')}{a:Act}{w:World}{S:Nat->Nat->Prop}{β:Bm}{K:PV->Prop}{Km:Act->World->Prop}{Q:Exit->Act->World->Prop}(h:Sim w0 S0 K0 N τ objs a w S β)(hs:gO false objs o.op (ev τ) K) (hk:∀ pv w' S' v,K pv->Leads w S qR w' S'->Rep w' S' β v pv->Km (a.put o.dst v) w'):o.wp Pg a w Km Q:=by
 unfold gO at hs;cases hi:iO o.op with
 |false=>grind [ZK]| true =>
  rw[hi] at hs;obtain⟨c',hc1,hc2⟩:=Jr hi;obtain⟨c,b,x,t,tx,n,bb,z,hop,h1,h2,h3,h4,h5,h6⟩:=Kc hs;grind [Ka]
theorem KI {nb:Bool}{o:Oper}{τ:Nat->PV}{objs:List (Nat×Obj')}{a:Act}{w:World}{S:Nat->Nat->Prop}{β:Bm}{K:PV->Prop}{Km:Act->World->Prop}{Q:Exit->Act->World->Prop}(h:Sim w0 S0 K0 N τ objs a w S β)(hs:gO nb objs o.op (ev τ) K) (hk:∀ pv w' S' β' v,K pv->Sim w0 S0 K0 N τ objs a w' S' β'->Rep w' S' β' v pv->Km (a.put o.dst v) w'):o.wp Pg a w Km Q:=by
 have fin:gO false objs o.op (ev τ) K->o.wp Pg a w Km Q:=λhs=>iX h hs λpv w' S' v hK l hr=>hk pv w' S' β v hK (h.go l) hr;cases nb with
 |false=>grind| true =>
  cases hi:iO o.op with
  |true=>grind [gO]| false =>
   (have hs':iW objs o.op (ev τ) K:=by grind [gO]);rcases nW hs' with⟨h1,h2⟩|⟨c,f,g,caps,h1,h2,h3,h4,h5⟩
   {grind [gO]};{rcases h5.h with⟨args',r,q1,q2,q3,q4⟩|⟨_,hn,cargs,kept,r,q1,q2,q3,q4,q5,q6,q7,q8,q9,q10⟩;{exact nM h1 h2 h h4 ⟨args',r,q1,q2,q3,q4⟩ λpv w' S' v hK l hr=>hk pv w' S' β v hK (h.go l) hr};grind [J1]}
theorem rG {ops:List Oper}{Q:Exit->Act->World->Prop}{i:Nat}{o:Oper}{a:Act}{w:World}{Km:Act->World->Prop}(ho:ops[i]?=some o) (h:(Region.wanted o (yielded ops.toArray a.tmps)=true/\o.wp Pg a w Km Q)\/(Region.wanted o (yielded ops.toArray a.tmps)=false/\Km (a.put o.dst undef) w)):wpOp Pg ops.toArray Q i Km a w:=by unfold wpOp;grind
def Lst (L:Array Bool) (j:Nat):Prop:=L.getD j false=true
theorem qL {L:Array Bool}{i:Nat}(hi:i<L.size)(j:Nat):Lst (L.setIfInBounds i true) j↔Lst L j\/j=i:=by unfold Lst;by_cases e:j=i;{simp_all};{rw[getD_set_ne false (Ne.symm e)];simp[e]}
theorem UK {ops:List Oper}{k:Nat}(D:DrawOk ops k){Q:Exit->Act->World->Prop}{K:PS->Prop}(hdst:∀ o,o∈ops->mG N o=true)(hk:∀ ps' a' w' S' β',K ps'->Sim w0 S0 K0 N (zD ps'.tmps) ps'.objs a' w' S' β'->Q .normal a' w'):∀ (fuel m:Nat) (L:Array Bool) {ps:PS} {a:Act} {w:World} {S:Nat->Nat->Prop} {β:Bm},k<=m->m<=ops.length->L.size=ops.length->(∀ j,j<ops.length->(Lst L j↔j<m))->ops.length<=m+fuel ->Sim w0 S0 K0 N (zD ps.tmps) ps.objs a w S β->jF ops (ops.drop m) ps K->wpAny Pg .any ops.toArray Q fuel L a w:=by
 intro fuel;induction fuel with
 |zero =>
  (intro m L ps a w S β hkm hm hsz hL hf h hs;have hme:m=ops.length:=by omega);have hr:Region.ready .any ops.toArray L=[]:=by
   (rw[List.eq_nil_iff_forall_not_mem];intro i hi;obtain⟨h1,o,h2,_⟩:=mem_ready.1 hi;have hlt:i<ops.length:=by grind);have:=(hL i hlt).2 oM
   unfold Lst at this;grind
  refine⟨hr,?_⟩;rw[hme,w5] at hs;exact hk _ _ _ _ _ hs h
 |succ fuel ih =>
  (intro m L ps a w S β hkm hm hsz hL hf h hs;have closed:∀ i o,ops[i]?=some o->Lst L i->p8 (Lst L) o:=by intro i o ho hi e he hb;have hlt:=(wI.1 ho).1;have h1:=D.back i o ho e he hb;grind);refine⟨λhr=>?_,λi hi=>?_⟩
  ·by_cases hme:m=ops.length;{rw[hme,w5] at hs;exact hk _ _ _ _ _ hs h}
   ·(exfalso;have hlt:m<ops.length:=by omega);have hin:m∈Region.ready .any ops.toArray L:=by
     refine mem_ready.2 ⟨?_,ops[m],by grind,λe he hb=>?_⟩
     ·rw[v8 oM true false];cases hx:L.getD m false with
      |false=>rfl| true=>have:=(hL m hlt).1 hx;omega
     {have h1:=D.back m _ (uZ hlt) e (by grind) hb;exact (hL e.on oM).2 h1}
    grind
  ·(obtain⟨h1,o,h2,h3⟩:=mem_ready.1 hi;have ho:ops[i]?=some o:=by grind);have hlt:i<ops.length:=(wI.1 ho).1
   (have him:m<=i:=by rcases kO i m with h'|h';{have:=(hL i hlt).2 h';unfold Lst at this;grind};omega);have hie:i=m:=by rcases kO m i with h'|h';{have hb:=D.rest i m hlt oM h';have:=wB closed ho (λe he hb=>h3 e (by grind) hb) hb;grind};{omega}
   (subst hie;have hdrop:ops.drop i=o::ops.drop (i+1):=by grind [List.drop_eq_getElem_cons]);rw[hdrop] at hs
   (simp only[jF] at hs;have hL2:∀ j,j<ops.length->(Lst (L.setIfInBounds i true) j↔j<i+1):=by grind [qL]);have hdo:=pX (hdst o (z8 ho))
   refine rG ho ?_;rcases dQ h.tmp hs with⟨hw,hA⟩|⟨hw,hB⟩;{exact .inl ⟨hw,c8 h hA hdo λps' a' w' S' β' hK hsim=>by obtain⟨ps'',hK',hsim'⟩:=Yx hsim hK;grind⟩};{exact .inr ⟨hw,ih (i+1) _ oM oM (by grind) hL2 oM (wU h o.dst hdo (oT _ _ _)) hB⟩}
theorem pT {m n:Nat}{o:Obj'}:∀ {l:List (Nat×Obj')},yK (xP l m) n=some o->n≠m/\yK l n=some o
 |[],h=>by grind [xP,yK]| (u,v)::r,h=>by
  unfold xP at h;cases hu:nqb u m with
  |true =>
   rw[hu] at h;obtain⟨h1,h2⟩:=pT h;grind [yK,nqb]
  |false =>
   rw[hu] at h;unfold yK at h ⊢;cases hx:nqb u n with
   |true =>
    grind
   |false =>
    rw[hx] at h;exact pT h
theorem Zm {m n:Nat}{o x:Obj'}(hne:m≠n):∀ {l:List (Nat×Obj')},yK l n=some o->yK (setO l m x) n=some o
 |[],h=>by grind [yK]| (u,v)::r,h=>by
  unfold setO;cases hu:nqb u m with
  |true =>
   grind [yK,nqb]
  |false =>
   unfold yK at h ⊢;show (match nqb u n with|true=>some v|false=>yK (setO r m x) n)=some o;cases hx:nqb u n with
   |true=>grind| false=>rw[hx] at h;exact Zm hne h
theorem Xy {objs objs':List (Nat×Obj')}{all:List Oper}{o:Oper}{τ:Nat->PV}{pv:PV}(hx:∀ n o,yK objs n=some o->yK objs' n=some o)(h:vS false objs all o τ pv):vS false objs' all o τ pv :=
 nD (λh=>V7 hx h) id h
theorem Cp {all:List Oper}{us:List Nat}{n:Nat}{K:PS->Prop}:∀ (l:List Oper) (i:Nat) {ps:PS},Da all us n l i ps K->∃ pvs ps',pvs.length=l.length/\K ps'/\ps'.objs=ps.objs/\zD ps'.tmps=uN l pvs (zD ps.tmps) /\ ∀ j o pv,l[j]?=some o->pvs[j]?=some pv->vS false ps.objs all o (uN (l.take j) (pvs.take j) (zD ps.tmps)) pv/\(yJ (i+j) us=true->vS false (xP ps.objs n) all o (uN (l.take j) (pvs.take j) (zD ps.tmps)) pv)
 |[],i,ps,h=>⟨[],ps,rfl,h,rfl,rfl,λj o pv h=>by simp at h⟩| o::r,i,ps,h=>by
  simp only[Da] at h;have hdel:∀ m y,yK (xP ps.objs n) m=some y->yK ps.objs m=some y:=λm y q=>(pT q).2;obtain⟨pv,ps1,h1,ho1,ht1,h2,h3⟩:∃ pv ps1,Da all us n r (i+1) ps1 K/\ps1.objs=ps.objs/\zD ps1.tmps=upd (zD ps.tmps) o.dst pv/\vS false ps.objs all o (zD ps.tmps) pv/\(yJ i us=true->vS false (xP ps.objs n) all o (zD ps.tmps) pv):=by
   (have fin:∀ (objs:List (Nat×Obj')),objs=(match yJ i us with|true=>xP ps.objs n|false=>ps.objs)->∀ pv:PV,vS false objs all o (zD ps.tmps) pv->vS false ps.objs all o (zD ps.tmps) pv/\(yJ i us=true->vS false (xP ps.objs n) all o (zD ps.tmps) pv):=λobjs he pv hs=>by grind [Xy]);rcases mN h with⟨pv,q1,q2⟩|⟨q1,q2⟩
   {obtain⟨pv',ps',g1,g2,g3,g4⟩:=m5 q1;grind};{exact⟨.tup [],_,q1,kH _ _ _,xL _ _ _,fin _ rfl _ q2⟩}
  obtain⟨pvs,ps',g1,g2,g3,g4,g5⟩:=Cp r (i+1) h1;refine⟨pv::pvs,ps',by simp[g1],g2,g3.trans ho1,by rw[g4,ht1];rfl,λj o' pv' hj hp=>?_⟩;cases j with
  |zero =>
   simp only[rV,rF] at hj hp;subst hj hp;exact⟨h2,h3⟩
  |succ j =>
   simp only[aA] at hj hp;have:=g5 j o' pv' hj hp;rw[ho1,ht1] at this;rw[show i+(j+1)=i+1+j by omega];exact this
theorem CE {o:Oper}{ts:TypeId}{ad v:Operand}{T:List (Nat×PV)}{objs:List (Nat×Obj')}{K:PS->Prop}(hop:o.op=.store ts ad v)(hd:o.dst=none)(h:cG o ⟨T,objs⟩ K){us:List Nat}{nn:Nat}(hto:Mc us nn o ⟨T,objs⟩=true):∃ objs2,(us≠[]->∀ m y,yK (xP objs nn) m=some y->yK objs2 m=some y)/\K ⟨T,objs2⟩/\∀ (K':PS->Prop) T',(∀ x,x∈o.op.operands.toList->ev (zD T') x=ev (zD T) x)->K' ⟨T',objs2⟩->cG o ⟨T',objs⟩ K':=by
 have hev:∀ {T'},(∀ x,x∈o.op.operands.toList->ev (zD T') x=ev (zD T) x)->ev (zD T') ad=ev (zD T) ad/\ev (zD T') v=ev (zD T) v:=λhx =>
  ⟨hx ad (by grind [Op.operands]),hx v (by grind [Op.operands])⟩
 have hkey:us≠[]->∀ m':Nat,(∀ off,ev (zD T) ad=.ptr m' off->m'=nn)/\(∀ s i off,ev (zD T) ad=.aptr m' s i off->m'=nn):=λhu m'=>by
  unfold Mc at hto;cases us with
  |nil=>grind| cons u r =>
   grind [y8]
 have hag:∀ (m':Nat) (x:Obj'),m'=nn->∀ m y,yK (xP objs nn) m=some y->yK (setO objs m' x) m=some y:=λm' x e m y hm=>by grind [pT,Zm]
 unfold cG at h;simp only[hop,hd,put] at h;generalize hea:ev (zD T) ad=ea at *;generalize hvv:ev (zD T) v=vv at *;cases ea with
 |ptr n off =>
  simp only at h;cases hg:yK objs n with
  |none=>grind| some x =>
   cases x with
   |arr s els=>grind| log s els=>grind| lent s els=>grind| mp t k=>grind| mat s r q=>grind| box cs =>
    simp only[hg] at h;split at h;{rename_i hc;refine⟨_,λhu=>hag n _ ((hkey hu n).1 off rfl),h,λK' T' hx hK=>?_⟩;obtain⟨e1,e2⟩:=hev hx;unfold cG;simp only[hop,hd,put,e1,e2,hg,hc];exact hK};grind
 |aptr n s i off =>
  simp only at h;cases hg:yK objs n with
  |none=>grind| some x =>
   cases x with
   |box cs=>grind| log s els=>grind| lent s els=>grind| mp t k=>grind| mat s0 r q =>
    simp only[hg] at h;split at h;{rename_i hc;obtain⟨hs1,v0,k,hs2,g1,g2,g3,g4⟩:=h.h;refine⟨_,λhu=>hag n _ ((hkey hu n).2 s i off rfl),g4,λK' T' hx hK=>?_⟩;obtain⟨e1,e2⟩:=hev hx;unfold cG;simp only[hop,hd,put,e1,e2,hg,hc];exact⟨⟨hs1,v0,k,hs2,g1,g2,g3,hK⟩⟩};grind
   |arr s' els =>
    simp only[hg] at h;split at h;{rename_i hc;obtain⟨c,g1,g2,g3,g4⟩:=h.h;refine⟨_,λhu=>hag n _ ((hkey hu n).2 s i off rfl),g4,λK' T' hx hK=>?_⟩;obtain⟨e1,e2⟩:=hev hx;unfold cG;simp only[hop,hd,put,e1,e2,hg,hc];exact⟨⟨c,g1,g2,g3,hK⟩⟩};grind
 |_=>simp only at h
theorem Yp {objs objs':List (Nat×Obj')}{all:List Oper}{o:Oper}{τ:Nat->PV}{pv:PV}(hb:FO o=true)(h:vS false objs all o τ pv):vS false objs' all o τ pv :=
 nD (λh=>Hu hb h) id h
theorem Xp:∀ {l1 l2:List Oper} {v1 v2:List PV} {τ:Nat->PV},v1.length=l1.length->uN (l1++l2) (v1++v2) τ=uN l2 v2 (uN l1 v1 τ)
 |[],l2,[],v2,τ,_=>rfl| o::r,l2,v::vs,v2,τ,h=>by simp only[Vq,uN];exact Xp (by grind)| [],l2,v::vs,v2,τ,h=>by simp at h| o::r,l2,[],v2,τ,h=>by simp at h
theorem Nq {ops:List Oper}{k:Nat}(D:DrawOk ops k){Q:Exit->Act->World->Prop}{K:PS->Prop}(hdst:∀ o,o∈ops->mG N o=true)(hk:∀ ps' a' w' S' β',K ps'->Sim w0 S0 K0 N (zD ps'.tmps) ps'.objs a' w' S' β'->Q .normal a' w') {T0:List (Nat×PV)} {objs1 objs2:List (Nat×Obj')} {ps2:PS} {pvs:List PV} {i0:Nat} {os:Oper} (hi0:i0<k) (hos:ops[i0]?=some os) (hg:os.guard=none) (hkl:k<=ops.length) (hlen:pvs.length=(ops.take k).length) (hK:jF ops (ops.drop k) ⟨ps2.tmps,objs2⟩ K) (ht2:zD ps2.tmps=uN (ops.take k) pvs (zD T0)) (hst:∀ i o pv,i<k->i≠i0->ops[i]?=some o->pvs[i]?=some pv->(vS false objs1 ops o (uN ((ops.take k).take i) (pvs.take i) (zD T0)) pv\/((anc ops).getD i 0).testBit i0=true) /\ (vS false objs2 ops o (uN ((ops.take k).take i) (pvs.take i) (zD T0)) pv\/((anc ops).getD i0 0).testBit i=true)) (hsto:∀ T,(∀ t,t∈qY ops os->zD T t=uN ((ops.take k).take i0) (pvs.take i0) (zD T0) t)->cG os ⟨T,objs1⟩ (λp=>zD p.tmps=upd (zD T) os.dst (pvs.getD i0 .any)/\p.objs=objs2)):∀ (fuel:Nat) (L:Array Bool) {a:Act} {w:World} {S:Nat->Nat->Prop} {β:Bm} {T:List (Nat×PV)} {objs':List (Nat×Obj')},L.size=ops.length->(∀ j,j<ops.length->k<=j->¬Lst L j)->(∀ i o,ops[i]?=some o->Lst L i->p8 (Lst L) o)->unl L ops.length<=fuel ->Sim w0 S0 K0 N (zD T) objs' a w S β->(Lst L i0->objs'=objs2)->(¬Lst L i0->objs'=objs1)->At ops k pvs (zD T0) (Lst L) (zD T)->wpAny Pg .any ops.toArray Q fuel L a w:=by
 have hpl:k<=pvs.length:=by grind
 have hend:∀ {T:List (Nat×PV)} {L:Array Bool},(∀ j,j<k->Lst L j)->At ops k pvs (zD T0) (Lst L) (zD T)->zD T=zD ps2.tmps:=by
  (intro T L hfull hat;funext t;rw[ht2];have htx:=At.text (τ0:=zD T0) D hlen k (yX _);have e1:(ops.take k).take k=ops.take k:=by grind);have e2:pvs.take k=pvs:=yW (by grind)
  rw[e1,e2] at htx;exact hat.same D hpl htx λj o hj ho hd=>.inl ⟨hfull j hj,hj⟩
 intro fuel;induction fuel with
 |zero =>
  intro L a w S β T objs' hsz hge hcl hun h hob1 hob2 hat;have hall:=oI (Nat.le_zero.1 hun);have hall':∀ j,j<ops.length->Lst L j:=λj hj=>by have h1:=hall j hj;rw[v8 oM true false] at h1;exact h1
  (have hkn:ops.length<=k:=by grind);have hk':k=ops.length:=by omega
  refine UK D hdst hk 0 k L (ps:=⟨ps2.tmps,objs2⟩) (S:=S) (β:=β) (yX _) hkl hsz (λj hj=>⟨λ_=>by omega,λ_=>hall' j hj⟩) oM ?_ hK;grind
 |succ fuel ih =>
  intro L a w S β T objs' hsz hge hcl hun h hob1 hob2 hat;by_cases hfull:∀ j,j<k->Lst L j
  ·refine UK D hdst hk (fuel+1) k L (ps:=⟨ps2.tmps,objs2⟩) (S:=S) (β:=β) (yX _) hkl hsz (λj hj=>⟨λhl=>?_,λhj'=>hfull j hj'⟩) ?_ ?_ hK;{rcases kO j k with h'|h';{exact h'};grind}
   ·have cnt:∀ n,k<=n->n<=ops.length->n<=k+unl L n:=by
     intro n;induction n with
     |zero=>omega| succ n ihn =>
      intro hkn hn;simp only[unl];by_cases hk0:k=n+1;{omega}
      ·(have:=ihn oM oM;have hnl:=hge n oM oM;have:L.getD n true≠true:=by rw[v8 oM true false];exact hnl);grind
    grind
   grind
  ·have hun0:∃ j,j<k/\¬Lst L j/\∀ i,i<j->Lst L i:=by
    have:∀ n,n<=k->(∀ i,i<n->Lst L i)\/∃ j,j<k/\¬Lst L j/\∀ i,i<j->Lst L i:=by
     intro n;induction n with
     |zero=>grind| succ n ihn =>
      intro hn;rcases ihn oM with h1|h1;{by_cases hx:Lst L n;{refine .inl λi hi=>?_;by_cases e:i=n;{grind};grind};grind};{exact .inr h1}
    rcases this k (yX _) with h1|h1;{grind};omega
   obtain⟨j0,hj0,hnj0,hbelow⟩:=hun0;refine⟨λhr=>?_,λi hi=>?_⟩
   ·(exfalso;have hlt:j0<ops.length:=by omega);have hin:j0∈Region.ready .any ops.toArray L:=by
     refine mem_ready.2 ⟨?_,ops[j0],by grind,λe he hb=>?_⟩
     ·rw[v8 oM true false];cases hx:L.getD j0 false with
      |false=>rfl| true=>exact absurd hx hnj0
     {exact hbelow e.on (D.back j0 _ (uZ hlt) e (by grind) hb)}
    grind
   ·(obtain⟨h1,o,h2,h3⟩:=mem_ready.1 hi;have ho:ops[i]?=some o:=by grind);have hlt:i<ops.length:=(wI.1 ho).1
    have hE:p8 (Lst L) o:=λe he hb=>h3 e (by grind) hb;have hik:i<k:=by rcases kO i k with h'|h';{exact h'};{exact absurd (wB hcl ho hE (D.rest i j0 hlt h' oM)) hnj0}
    (have hp:pvs[i]?=some pvs[i]:=uZ oM;have hdo:=pX (hdst o (z8 ho));have hsize:i<L.size:=by omega);have hnl:¬Lst L i:=λhl=>by rw[v8 oM true false] at h1;unfold Lst at hl;grind
    (have hagree:∀ t,t∈qY ops o->uN ((ops.take k).take i) (pvs.take i) (zD T0) t=zD T t:=λt ht=>At.same D hpl (At.text D hlen i oM) hat λj oj hj hoj hd=>by rcases D.look i o t j oj hik hj ho hoj ht hd with⟨q1,q2⟩|⟨q1,q2⟩;{exact .inl ⟨q1,wB hcl ho hE q2⟩};{refine .inr ⟨by omega,λhl=>?_⟩;have:=wB hcl hoj (hcl j oj hoj hl) q2;grind});have hnext:∀ {a':Act} {w':World} {S':Nat->Nat->Prop} {β':Bm} {T':List (Nat×PV)} {objs3:List (Nat×Obj')},zD T'=upd (zD T) o.dst pvs[i]->Sim w0 S0 K0 N (zD T') objs3 a' w' S' β'->(Lst (L.setIfInBounds i true) i0->objs3=objs2)->(¬Lst (L.setIfInBounds i true) i0->objs3=objs1)->wpAny Pg .any ops.toArray Q fuel (L.setIfInBounds i true) a' w':=by intro a' w' S' β' T' objs3 hT hsim g1 g2;refine ih (L.setIfInBounds i true) (by simpa using hsz) (λj hj hkj hl=>?_) (λj oj hoj hl=>?_) ?_ hsim g1 g2 (by rw[hT];exact hat.step D hik ho hp λj=>qL hsize j);{rcases (qL hsize j).1 hl with hl|hl;{exact hge j hj hkj hl};{omega}};{intro e he hb;rw[qL hsize];rcases (qL hsize j).1 hl with hl|hl;{exact .inl (hcl j oj hoj hl e he hb)};{subst hl;rw[ho] at hoj;cases hoj;exact .inl (hE e he hb)}};{have:=YX h1 hlt;omega}
    by_cases hie:i=i0;{subst hie;rw[ho] at hos;cases hos;have hob:objs'=objs1:=hob2 hnl;subst hob;have hs0:=hsto T λt ht=>(hagree t ht).symm;refine rG ho (.inl ⟨by simp[Region.wanted,hg],c8 (ps:=⟨T,objs'⟩) h hs0 hdo λps' a' w' S' β' hK hsim=>?_⟩);obtain⟨hK1,hK2⟩:=hK;refine hnext (T':=ps'.tmps) (objs3:=ps'.objs) ?_ hsim (λ_=>hK2) (λhn=>absurd ((qL hsize i).2 (.inr rfl)) hn);rw[hK1,wK,hp];rfl}
    ·(obtain⟨hA1,hA2⟩:=hst i o _ hik hie ho hp;have hsame:(Lst (L.setIfInBounds i true) i0↔Lst L i0):=by rw[qL hsize];grind);have hs1:vS false objs' ops o (uN ((ops.take k).take i) (pvs.take i) (zD T0)) pvs[i]:=by by_cases hl0:Lst L i0;{rw[hob1 hl0];rcases hA2 with q|q;{exact q};{exact absurd (wB hcl hos (hcl i0 os hos hl0) q) hnl}};{rw[hob2 hl0];rcases hA1 with q|q;{exact q};{exact absurd (wB hcl ho hE q) hl0}}
     have hs2:vS false objs' ops o (zD T) pvs[i]:=mO hagree hs1;refine rG ho ?_;rcases dQ h.tmp hs2 with⟨hw,hA⟩|⟨hw,hB⟩;{refine .inl ⟨hw,iX h hA λpv w' S' v hpv l hr=>?_⟩;refine hnext (S':=S') (β':=β) (T':=(put ⟨T,[]⟩ o.dst pvs[i]).tmps) (xL _ _ _) ?_ (λq=>hob1 (hsame.1 q)) (λq=>hob2 λq'=>q (hsame.2 q'));rw[xL];exact (h.go l).put o.dst hdo (hr.le _ hpv)};{refine .inr ⟨hw,hnext (S':=S) (β':=β) (T':=(put ⟨T,[]⟩ o.dst pvs[i]).tmps) (xL _ _ _) ?_ (λq=>hob1 (hsame.1 q)) (λq=>hob2 λq'=>q (hsame.2 q'))⟩;rw[xL];refine h.put o.dst hdo ?_;rw[hB];exact oT _ _ _}
theorem iM:∀ {l:List Oper} {x:Nat×Obj'},x∈yP l↔∃ (i:Nat) (o:Oper),l[i]?=some o/\vK o=some x
 |[],x=>by simp[yP]| o::r,x=>by have ih:=@iM r x;unfold yP;constructor;{intro h;split at h;{rename_i y hy;rcases yR.1 h with h|h;{exact⟨0,o,rfl,by grind⟩};{obtain⟨i,o',q1,q2⟩:=ih.1 h;exact⟨i+1,o',by grind,q2⟩}};{obtain⟨i,o',q1,q2⟩:=ih.1 h;exact⟨i+1,o',by grind,q2⟩}};grind
theorem Qz {ops:List Oper}{k:Nat}{x:Nat×Obj'}:x∈yP (ops.take k)↔∃ i o,i<k/\ops[i]?=some o/\vK o=some x:=by rw[iM];constructor;{grind};{rintro⟨i,o,q0,q1,q2⟩;exact⟨i,o,by grind,q2⟩}
theorem Wh {ps:PS}:∀ {l:List (Nat×Obj')} {n:Nat} {o:Obj'},VG ps l=true->(n,o)∈l->yO n ps=true
 |[],n,o,_,h=>by simp at h| (m,x)::r,n,o,hm,h=>by simp only[VG,yS] at hm;rcases yR.1 h with h|h;{grind};{exact Wh hm.2 h}
theorem Un {T:List (Nat×PV)}:∀ {l:List (Nat×Obj')} {n:Nat} {o:Obj'},Jc T l=true->(n,o)∈l->mfT n T=true
 |[],n,o,_,h=>by simp at h| (m,x)::r,n,o,hm,h=>by simp only[Jc,yS] at hm;rcases yR.1 h with h|h;{grind};{exact Un hm.2 h}
theorem Je {n t:Nat}(ht:t≠n):∀ {T:List (Nat×PV)},mfT n T=true->xN n (zD T t)=true
 |[],_=>rfl| (u,v)::r,h=>by
  simp only[mfT,yS] at h;unfold zD;cases hu:nqb u t with
  |true =>
   grind [y8]
  |false=>exact Je ht h.2
theorem Uw:∀ l:List PV,w8 (λv=>v) l=l
 |[]=>rfl| v::r=>by unfold w8;rw[Uw r]
theorem Us:∀ l:List (Nat×PV),wF (λv=>v) l=l
 |[]=>rfl| (t,v)::r=>by unfold wF;rw[Us r]
theorem Uu:∀ l:List (PV×(Unit->Nat)),gQ (λv=>v) l=l
 |[]=>rfl| (v,k)::r=>by unfold gQ;rw[Uu r]
theorem H4 (o:Obj'):x7 (λv=>v) o=o:=by
 cases o with
 |box cs=>simp only[x7,Uw]| mat s r q=>simp only[x7,Uu]| _=>rfl
theorem Ut:∀ l:List (Nat×Obj'),xB (λv=>v) l=l
 |[]=>rfl| (n,o)::r=>by
  (have e:xB (λv=>v) ((n,o)::r)=(n,x7 (λv=>v) o)::xB (λv=>v) r:=by cases o <;> rfl);rw[e,Ut r,H4]
theorem UE {n:Nat}{o:Obj'}:∀ (M:List Nat) {l:List (Nat×Obj')},yK (gV M l) n=some o->yJ n M=false/\yK l n=some o
 |[],l,h=>⟨rfl,h⟩| m::r,l,h=>by unfold gV at h;obtain⟨h1,h2⟩:=UE r h;grind [pT,yJ,y8]
theorem aN:∀ {l:List (Nat×Obj')} {n:Nat} {x:Obj'},n∈l.map Prod.fst->(n,x)∈setO l n x
 |(u,v)::r,n,x,hn=>by
  unfold setO;cases hu:nqb u n with
  |true=>grind| false =>
   (have hne:u≠n:=λe=>by simp_all);have hn':n∈r.map Prod.fst:=by grind
   exact wJ _ (aN hn')
 |[],n,x,hn=>by grind
theorem Zb:∀ {l:List (Nat×Obj')} {n m:Nat} {x o:Obj'},m≠n->(m,o)∈l->(m,o)∈setO l n x
 |(u,v)::r,n,m,x,o,hne,h=>by
  unfold setO;cases hu:nqb u n with
  |true =>
   simp_all
  |false =>
   rcases yR.1 h with h|h;{grind};{exact wJ _ (Zb hne h)}
 |[],n,m,x,o,hne,h=>by simp at h
theorem Zc {l:List (Nat×Obj')}{n m:Nat}{x o:Obj'}(hnd:(l.map Prod.fst).Nodup)(hn:n∈l.map Prod.fst):(m,o)∈setO l n x↔(m=n/\o=x)\/(m≠n/\(m,o)∈l) :=
 ⟨xS hnd hn,λh=>by rcases h with⟨rfl,rfl⟩|⟨h1,h2⟩;{exact aN hn};grind [Zb]⟩
theorem gY:∀ (l r:List Oper),yP (l++r)=yP l++yP r
 |[],r=>rfl| o::l,r=>by
  simp only[Vq,yP];cases vK o with
  |none=>exact gY l r| some x=>simp only[Vq,gY l r]
theorem jN:∀ {es:List (Nat×Nat)} {i n:Nat},y7 es i=some n->(i,n)∈es
 |(a,b)::r,i,n,h=>by
  unfold y7 at h;cases ha:nqb a i with
  |true =>
   simp_all
  |false=>rw[ha] at h;exact wJ _ (jN h)
 |[],i,n,h=>by grind [y7]
theorem sW:∀ {l:List Nat} {n:Nat},n∈l->yJ n l=true
 |m::r,n,h=>by unfold yJ;rcases yR.1 h with rfl|h;{simp};{rw[sW h];simp}
 |[],n,h=>by simp at h
theorem XA:∀ {es:List (Nat×Nat)} {i n:Nat},(i,n)∈es->n∈jC es
 |(a,b)::r,i,n,h=>by unfold jC;rcases yR.1 h with h|h;{grind};{exact wJ _ (XA h)}
 |[],i,n,h=>by simp at h
theorem Z3:∀ {es:List (Nat×Nat)} {i j n:Nat},K9 (jC es)=true->y7 es i=some n->y7 es j=some n->i=j
 |(a,b)::r,i,j,n,hd,h1,h2=>by
  (unfold jC K9 at hd;simp only[yS,Vs] at hd;unfold y7 at h1 h2;have bad:∀ {x},y7 r x=some b->False:=λh=>by rw[sW (XA (jN h))] at hd;grind);cases ha:nqb a i with
  |true =>
   grind [y8]
  |false =>
   rw[ha] at h1;cases hb:nqb a j with
   |true=>grind| false=>rw[hb] at h2;exact Z3 hd.2 h1 h2
 |[],i,j,n,_,h1,_=>by grind [y7]
theorem Wg:∀ {ms:List (Nat×Obj')} {cs:List PV},Qx ms cs=true->∀ d y,(d,y)∈ms->wM d cs=true
 |(a,b)::r,cs,h,d,y,hm=>by unfold Qx at h;simp only[yS] at h;rcases yR.1 hm with hm|hm;{grind};{exact Wg h.2 d y hm}
 |[],cs,h,d,y,hm=>by grind
theorem Zf {ops:List Oper}{o:Oper}{T:List (Nat×PV)}{τ:Nat->PV}(hg:o.guard=none)(h:∀ t,t∈qY ops o->zD T t=τ t):∀ x,x∈o.op.operands.toList->ev (zD T) x=ev τ x:=λx hx=>by
 cases x with
 |tmp t =>
  show zD T t=τ t;refine h t ?_;unfold qY;grind
 |_=>rfl
inductive EfStep (ops:List Oper) (es:List (Nat×Nat)) (ms lim:List (Nat×Obj')) (i:Nat) (o:Oper) (τ:Nat->PV) (pv:PV) (O O':List (Nat×Obj')):Prop
 |mk {d x} (h:vK o=some (d,x)) (hp:pv=.ptr d 0) (hO:O'=O++[(d,x)])
 |eff {n x x0} (hm:vK o=none) (he:y7 es i=some n) (h0:yK O n=some x0) (hfree:∀ d y,(d,y)∈ms->bM d x) (hg:o.guard=none)
   (hgo:∀ (T':List (Nat×PV)) (O1:List (Nat×Obj')),(∀ t,t∈qY ops o->zD T' t=τ t)->yK O1 n=some x0->cG o ⟨T',O1⟩ (λp=>zD p.tmps=upd (zD T') o.dst pv/\p.objs=setO O1 n x)) (hO:O'=setO O n x)
 |pure (hm:vK o=none) (he:y7 es i=none) (h:vS true lim ops o τ pv) (hO:O'=O)
theorem Po {ops:List Oper}{ms:List (Nat×Obj')}{o:Oper}{n:Nat}{T:List (Nat×PV)}{O:List (Nat×Obj')}{K:PV->Obj'->Prop}(h:No ms o n T O K):∃ pv x x0,K pv x/\yK O n=some x0/\(∀ d y,(d,y)∈ms->bM d x)/\o.guard=none /\ ∀ (T':List (Nat×PV)) (O1:List (Nat×Obj')),(∀ t,t∈qY ops o->zD T' t=zD T t)->yK O1 n=some x0->cG o ⟨T',O1⟩ (λp=>zD p.tmps=upd (zD T') o.dst pv/\p.objs=setO O1 n x):=by
 unfold No at h;cases hg:o.guard with
 |some g=>grind| none =>
 rw[hg] at h;simp only at h;cases hop:o.op with
 |store t a v =>
  rw[hop] at h;simp only at h;cases hd:o.dst with
  |some d=>grind| none =>
   rw[hd] at h;simp only at h;cases hea:ev (zD T) a with
   |ptr m off =>
    rw[hea] at h;simp only at h;cases hmn:nqb m n with
    |false=>grind| true =>
     rw[hmn] at h;simp only at h;have:=y8 hmn;subst this;cases hgo:yK O m with
     |none=>grind| some x0 =>
      rw[hgo] at h;cases x0 with
      |arr s e=>grind| log s e=>grind| lent s e=>grind| mat s r q=>grind| mp t k=>grind| box cs =>
       simp only at h;split at h;{rename_i hc;simp only[yS] at hc;refine⟨_,_,_,h,rfl,λd y hy=>Wg hc.2 d y hy,rfl,λT' O1 hT hO=>?_⟩;have hev:=Zf hg hT;have e1:ev (zD T') a=.ptr m off:=(hev a (by grind [Op.operands])).trans hea;have e2:ev (zD T') v=ev (zD T) v:=hev v (by grind [Op.operands]);have hc':=hc.1;unfold cG;simp only[hop,e1,e2,hO];rw[show (nqb (yZ (ev (zD T) v)).length (ty t).cells&&nle (off+(ty t).cells) cs.length&&nlt 0 (ty t).cells&&y4 tW (yZ (ev (zD T) v)))=true by grind];simp only[hd,put];refine⟨?_,?_⟩ <;> first|rfl|trivial};grind
   |_=>rw[hea] at h;exact h.elim
 |call c =>
  rw[hop] at h;simp only at h;cases hcl:c.callee with
  |value g =>
   rw[hcl] at h;simp only at h;obtain⟨f,caps,hn,cargs,m,x,r,x',E1,E2,E3,E4,E5,E6,E7,E8,E9,E10,E11⟩:=h.h;refine⟨_,_,_,E11,E5,λd y _=>?_,rfl,λT' O1 hT hO=>?_⟩
   ·cases x' with
    |box cs=>exact V5 d E7| arr s e=>trivial| log s e=>trivial| lent s e=>trivial| mp t k=>trivial| mat s r q =>
     cases q with
     |nil=>rfl| cons x y=>cases E7
   {have hev:=Zf hg hT;have hargs:∀ x,x∈c.args.toList->ev (zD T') x=ev (zD T) x:=λx hx=>hev x (by grind [Op.operands,Call.operands]);have hf:ev (zD T') g=ev (zD T) g:=hev g (by grind [Op.operands,Call.operands]);subst E4;unfold cG;simp only[hop,hcl];refine⟨⟨T',O1⟩,.refl _,f,caps,by grind,.inr ⟨hn,cargs,[(m,x)],[],r,[(m,x')],[],?_,E3,⟨⟨by grind [W7],YJ E6⟩,trivial⟩,rfl,rfl,?_,rfl,rfl,E8,E9,E10,?_,?_⟩⟩;{grind [pU]};{show ((bR x'&&H0 [m] x')&&true)=true;grind [YJ,D6]};{rw[xL];show upd (zD (wF (λv=>v) T')) o.dst _=_;rw[Us]};{rw[kH];show setO (xB (λv=>v) O1) (hn m) (x7 (ren hn) x')++[]=_;rw[Ut,uT,W7 E7]}}
  |_=>grind
 |_=>rw[hop] at h;exact h.elim
theorem AR {ops:List Oper}{es:List (Nat×Nat)}{ms lim:List (Nat×Obj')}{K:List (Nat×PV)->List (Nat×Obj')->Prop}:∀ (l:List Oper) (i:Nat) {T:List (Nat×PV)} {O:List (Nat×Obj')},Zq ops es ms lim l i T O K ->∃ (pvs:List PV) (Ob:Nat->List (Nat×Obj')) (T':List (Nat×PV)),pvs.length=l.length/\Ob 0=O/\K T' (Ob l.length)/\zD T'=uN l pvs (zD T) /\ ∀ j o pv,l[j]?=some o->pvs[j]?=some pv->EfStep ops es ms lim (i+j) o (uN (l.take j) (pvs.take j) (zD T)) pv (Ob j) (Ob (j+1))
 |[],i,T,O,h=>⟨[],λ_=>O,T,rfl,rfl,h,rfl,λj o pv h=>by simp at h⟩| o::r,i,T,O,h=>by
  obtain⟨pv,O1,T1,h1,ht1,hst⟩:∃ pv O1 T1,Zq ops es ms lim r (i+1) T1 O1 K/\zD T1=upd (zD T) o.dst pv/\EfStep ops es ms lim i o (zD T) pv O O1:=by
   unfold Zq at h;cases hm:vK o with
   |some dx =>
    obtain⟨d,x⟩:=dx;rw[hm] at h;simp only at h;obtain⟨_,hd,_⟩:=fJ hm;exact⟨.ptr d 0,_,_,h,by rw[hd];funext t;simp[upd,gR],.mk hm rfl rfl⟩
   |none =>
    rw[hm] at h;simp only at h;cases he:y7 es i with
    |some n =>
     rw[he] at h;simp only at h;obtain⟨pv,x,x0,h1,h2,h3,h4,h5⟩:=Po (ops:=ops) h;exact⟨pv,_,_,h1,xL _ _ _,.eff hm he h2 h3 h4 h5 rfl⟩
    |none =>
     rw[he] at h;simp only at h;rcases mN h with⟨pv,q1,q2⟩|⟨q1,q2⟩;{obtain⟨pv',p,g1,g2,g3,g4⟩:=m5 q1;exact⟨pv',O,p.tmps,g2,g4,.pure hm he (q2 pv' g1) rfl⟩};{exact⟨.tup [],O,_,q1,xL _ _ _,.pure hm he q2 rfl⟩}
  obtain⟨pvs,Ob,T',g1,g2,g3,g4,g5⟩:=AR r (i+1) h1;refine⟨pv::pvs,λj=>match j with|0=>O|j+1=>Ob j,T',by simp[g1],rfl,by omega,by rw[g4,ht1];rfl,λj o' pv' hj hp=>?_⟩;cases j with
  |zero =>
   simp only[rV,rF] at hj hp;subst hj hp;show EfStep ops es ms lim i o _ pv O (Ob 0);rw[g2];exact hst
  |succ j =>
   simp only[aA] at hj hp;have:=g5 j o' pv' hj hp;rw[ht1] at this;rw[show i+(j+1)=i+1+j by omega];exact this
def EMem (ops:List Oper) (es:List (Nat×Nat)) (k:Nat) (O0:List (Nat×Obj')) (X:Nat->Obj') (L:Nat->Prop) (y:Nat×Obj'):Prop :=
 ((y∈O0\/∃ j oj,j<k/\L j/\ops[j]?=some oj/\vK oj=some y)/\¬∃ i,i<k/\y7 es i=some y.1/\L i)\/(∃ i,i<k/\y7 es i=some y.1/\L i/\X i=y.2)
section
variable {ops:List Oper} {es:List (Nat×Nat)} {k:Nat} {O0:List (Nat×Obj')} {X:Nat->Obj'} {L L':Nat->Prop}
theorem EMem.pure {i:Nat}{o:Oper}(ho:ops[i]?=some o)(hm:vK o=none)(he:y7 es i=none)(hL':∀ j,L' j↔L j\/j=i)(y:Nat×Obj'):EMem ops es k O0 X L' y↔EMem ops es k O0 X L y:=by
 have h1:(∃ j oj,j<k/\L' j/\ops[j]?=some oj/\vK oj=some y)↔∃ j oj,j<k/\L j/\ops[j]?=some oj/\vK oj=some y:=by grind
 have h2:∀ P:Nat->Prop,(∃ j,j<k/\y7 es j=some y.1/\L' j/\P j)↔∃ j,j<k/\y7 es j=some y.1/\L j/\P j:=by grind
 have h3:(∃ i,i<k/\y7 es i=some y.1/\L' i)↔∃ i,i<k/\y7 es i=some y.1/\L i:=by grind
 unfold EMem;simp_all
theorem EMem.mk {i:Nat}{o:Oper}{d:Nat}{x:Obj'}(ho:ops[i]?=some o)(hik:i<k)(hm:vK o=some (d,x))(he:y7 es i=none)(hno:∀ j,j<k->y7 es j=some d->¬L j)(hL':∀ j,L' j↔L j\/j=i)(y:Nat×Obj'):EMem ops es k O0 X L' y↔EMem ops es k O0 X L y\/y=(d,x):=by
 have h1:(∃ j oj,j<k/\L' j/\ops[j]?=some oj/\vK oj=some y)↔(∃ j oj,j<k/\L j/\ops[j]?=some oj/\vK oj=some y)\/y=(d,x):=by grind
 have h2:∀ P:Nat->Prop,(∃ j,j<k/\y7 es j=some y.1/\L' j/\P j)↔∃ j,j<k/\y7 es j=some y.1/\L j/\P j:=by grind
 have h3:(∃ i,i<k/\y7 es i=some y.1/\L' i)↔∃ i,i<k/\y7 es i=some y.1/\L i:=by grind
 have h4:y=(d,x)->¬∃ i,i<k/\y7 es i=some y.1/\L i:=by grind
 unfold EMem;rw[h1,h2,h3];constructor
 ·rintro (⟨q1|q1|q1,q2⟩|q);{grind};{grind}
  all_goals grind
 ·rintro ((⟨q1|q1,q2⟩|q)|q);{grind};{grind}
  all_goals grind
theorem EMem.eff {i:Nat}{o:Oper}{n:Nat}(hinj:∀ {i j n},y7 es i=some n->y7 es j=some n->i=j)(ho:ops[i]?=some o)(hik:i<k)(hm:vK o=none)(he:y7 es i=some n)(hL':∀ j,L' j↔L j\/j=i)(y:Nat×Obj'):EMem ops es k O0 X L' y↔(y.1=n/\y.2=X i)\/(y.1≠n/\EMem ops es k O0 X L y):=by
 have h1:(∃ j oj,j<k/\L' j/\ops[j]?=some oj/\vK oj=some y)↔∃ j oj,j<k/\L j/\ops[j]?=some oj/\vK oj=some y:=by grind
 by_cases hy:y.1=n;{have h2:∀ j,y7 es j=some y.1->j=i:=λj hj=>hinj (by grind) he;unfold EMem;grind}
 ·(have h2:∀ P:Nat->Prop,(∃ j,j<k/\y7 es j=some y.1/\L' j/\P j)↔∃ j,j<k/\y7 es j=some y.1/\L j/\P j:=by grind);have h3:(∃ i,i<k/\y7 es i=some y.1/\L' i)↔∃ i,i<k/\y7 es i=some y.1/\L i:=by grind
  unfold EMem;rw[h1,h2,h3];constructor;{intro q;exact .inr ⟨hy,q⟩}
  ·rintro (⟨q,_⟩|⟨_,q⟩)
   all_goals omega
end
theorem Ns {ops:List Oper}{k:Nat}(D:DrawOk ops k){Q:Exit->Act->World->Prop}{K:PS->Prop}(hdst:∀ o,o∈ops->mG N o=true)(hk:∀ ps' a' w' S' β',K ps'->Sim w0 S0 K0 N (zD ps'.tmps) ps'.objs a' w' S' β'->Q .normal a' w') {T0 T2:List (Nat×PV)} {O0 O2:List (Nat×Obj')} {pvs:List PV} {es:List (Nat×Nat)} {ms lim:List (Nat×Obj')} {X:Nat->Obj'} {Ob:Nat->List (Nat×Obj')} (hkl:k<=ops.length) (hlen:pvs.length=(ops.take k).length) (hK:jF ops (ops.drop k) ⟨T2,O2⟩ K) (ht2:zD T2=uN (ops.take k) pvs (zD T0)) (hO2:∀ y,y∈O2↔EMem ops es k O0 X (λj=>j<k) y) (hnd2:(O2.map Prod.fst).Nodup) (hms:∀ x,x∈ms↔∃ i o,i<k/\ops[i]?=some o/\vK o=some x) (hfr:∀ n x,(n,x)∈ms->n<1000000/\(∀ t,xN n (zD T0 t)=true)/\(∀ m o,(m,o)∈O0->m≠n/\bM n o)/\(∀ t,t≠n->xN n (zD T2 t)=true)) (hlim:∀ n o,yK lim n=some o->(n,o)∈O0/\∀ i,y7 es i≠some n) (hinj:∀ {i j n},y7 es i=some n->y7 es j=some n->i=j) (hmkE:∀ i o x,ops[i]?=some o->vK o=some x->y7 es i=none) (hanc:∀ i n j oj x,i<k->y7 es i=some n->j<k->ops[j]?=some oj->vK oj=some (n,x)->((anc ops).getD i 0).testBit j=true) (hOb:∀ i,i<k->∀ y,y∈Ob i↔EMem ops es k O0 X (λj=>j<i) y) (hst:∀ i o pv,(ops.take k)[i]?=some o->pvs[i]?=some pv->EfStep ops es ms lim i o (uN ((ops.take k).take i) (pvs.take i) (zD T0)) pv (Ob i) (Ob (i+1))) (hX:∀ i n x,i<k->y7 es i=some n->(n,x)∈Ob (i+1)->X i=x) (hXin:∀ i n x0 x,yK (Ob i) n=some x0->(n,x)∈setO (Ob i) n x):∀ (fuel:Nat) (L:Array Bool) {a:Act} {w:World} {S:Nat->Nat->Prop} {β:Bm} {T:List (Nat×PV)} {objs':List (Nat×Obj')},L.size=ops.length->(∀ j,j<ops.length->k<=j->¬Lst L j)->(∀ i o,ops[i]?=some o->Lst L i->p8 (Lst L) o)->unl L ops.length<=fuel ->Sim w0 S0 K0 N (zD T) objs' a w S β->(∀ y,y∈objs'↔EMem ops es k O0 X (Lst L) y)->At ops k pvs (zD T0) (Lst L) (zD T)->wpAny Pg .any ops.toArray Q fuel L a w:=by
 have hpl:k<=pvs.length:=by rw[hlen];simp;omega
 have htx:At ops k pvs (zD T0) (λj=>j<k) (zD T2):=by
  (have htx:=At.text (τ0:=zD T0) D hlen k (yX _);have e1:(ops.take k).take k=ops.take k:=by rw[List.take_take,Nat.min_self]);have e2:pvs.take k=pvs:=yW (by rw[hlen];simp;omega)
  grind
 have hend:∀ {T:List (Nat×PV)} {L:Array Bool},(∀ j,j<k->Lst L j)->At ops k pvs (zD T0) (Lst L) (zD T)->zD T=zD T2:=by intro T L hfull hat;funext t;exact hat.same D hpl htx λj o hj ho hd=>.inl ⟨hfull j hj,hj⟩
 have hEx:∀ {L:Array Bool},(∀ j,j<k->Lst L j)->∀ y,EMem ops es k O0 X (Lst L) y↔EMem ops es k O0 X (λj=>j<k) y:=by
  (intro L hfull y;have e1:∀ P:Nat->Prop,(∃ j,j<k/\y7 es j=some y.1/\Lst L j/\P j)↔∃ j,j<k/\y7 es j=some y.1/\j<k/\P j:=λP=>⟨λ⟨j,q1,q2,_,q4⟩=>⟨j,q1,q2,q1,q4⟩,λ⟨j,q1,q2,_,q4⟩=>⟨j,q1,q2,hfull j q1,q4⟩⟩;have e2:(∃ j oj,j<k/\Lst L j/\ops[j]?=some oj/\vK oj=some y)↔∃ j oj,j<k/\j<k/\ops[j]?=some oj/\vK oj=some y:=⟨λ⟨j,oj,q1,_,q3⟩=>⟨j,oj,q1,q1,q3⟩,λ⟨j,oj,q1,_,q3⟩=>⟨j,oj,q1,hfull j q1,q3⟩⟩;have e3:(∃ i,i<k/\y7 es i=some y.1/\Lst L i)↔∃ i,i<k/\y7 es i=some y.1/\i<k:=by simpa using e1 (λ_=>True));unfold EMem
  rw[e1,e2,e3]
 intro fuel;induction fuel with
 |zero =>
  (intro L a w S β T objs' hsz hge hcl hun h hin hat;have hall:=oI (Nat.le_zero.1 hun);have hall':∀ j,j<ops.length->Lst L j:=λj hj=>by have h1:=hall j hj;rw[v8 oM true false] at h1;exact h1);have hkn:ops.length<=k:=by rcases kO k ops.length with h'|h';{exact absurd (hall' k h') (hge k h' (yX _))};omega
  have hfull:∀ j,j<k->Lst L j:=λj hj=>hall' j oM;refine UK D hdst hk 0 k L (ps:=⟨T2,O2⟩) (S:=S) (β:=β) (yX _) hkl hsz (λj hj=>⟨λ_=>by omega,λ_=>hall' j hj⟩) oM ?_ hK;show Sim w0 S0 K0 N (zD T2) O2 a w S β;rw[<-hend hfull hat];exact h.perm (λx=>by rw[hO2 x,hin x,hEx hfull x]) hnd2
 |succ fuel ih =>
  intro L a w S β T objs' hsz hge hcl hun h hin hat;by_cases hfull:∀ j,j<k->Lst L j
  ·refine UK D hdst hk (fuel+1) k L (ps:=⟨T2,O2⟩) (S:=S) (β:=β) (yX _) hkl hsz (λj hj=>⟨λhl=>?_,λhj'=>hfull j hj'⟩) ?_ ?_ hK;{rcases kO j k with h'|h';{exact h'};{exact absurd hl (hge j hj h')}}
   ·have cnt:∀ n,k<=n->n<=ops.length->n<=k+unl L n:=by
     intro n;induction n with
     |zero=>omega| succ n ihn =>
      intro hkn hn;simp only[unl];by_cases hk0:k=n+1;{omega}
      ·(have:=ihn oM oM;have hnl:=hge n oM oM;have:L.getD n true≠true:=by rw[v8 oM true false];exact hnl);rw[if_neg this]
       omega
    have:=cnt ops.length hkl (yX _);omega
   {show Sim w0 S0 K0 N (zD T2) O2 a w S β;rw[<-hend hfull hat];exact h.perm (λx=>by rw[hO2 x,hin x,hEx hfull x]) hnd2}
  ·have hun0:∃ j,j<k/\¬Lst L j/\∀ i,i<j->Lst L i:=by
    have:∀ n,n<=k->(∀ i,i<n->Lst L i)\/∃ j,j<k/\¬Lst L j/\∀ i,i<j->Lst L i:=by
     intro n;induction n with
     |zero=>intro _;exact .inl λi h=>by omega| succ n ihn =>
      intro hn;rcases ihn oM with h1|h1;{by_cases hx:Lst L n;{refine .inl λi hi=>?_;by_cases e:i=n;{exact e ▸ hx};{exact h1 i oM}};{exact .inr ⟨n,by omega,hx,h1⟩}};{exact .inr h1}
    rcases this k (yX _) with h1|h1;{exact absurd h1 hfull};omega
   obtain⟨j0,hj0,hnj0,hbelow⟩:=hun0;refine⟨λhr=>?_,λi hi=>?_⟩
   ·(exfalso;have hlt:j0<ops.length:=by omega);have hin:j0∈Region.ready .any ops.toArray L:=by
     refine mem_ready.2 ⟨?_,ops[j0],by simp[hlt],λe he hb=>?_⟩
     ·rw[v8 oM true false];cases hx:L.getD j0 false with
      |false=>rfl| true=>exact absurd hx hnj0
     {exact hbelow e.on (D.back j0 _ (uZ hlt) e (by simpa using he) hb)}
    rw[hr] at hin;cases hin
   ·(obtain⟨h1,o,h2,h3⟩:=mem_ready.1 hi;have ho:ops[i]?=some o:=by simpa using h2);have hlt:i<ops.length:=(wI.1 ho).1
    have hE:p8 (Lst L) o:=λe he hb=>h3 e (by simpa using he) hb;have hik:i<k:=by rcases kO i k with h'|h';{exact h'};{exact absurd (wB hcl ho hE (D.rest i j0 hlt h' oM)) hnj0}
    (have hp:pvs[i]?=some pvs[i]:=uZ oM;have hdo:=pX (hdst o (z8 ho));have hsize:i<L.size:=by omega);have hnl:¬Lst L i:=λhl=>by rw[v8 oM true false] at h1;unfold Lst at hl;rw[h1] at hl;exact absurd hl (by decide)
    (have hagree:∀ t,t∈qY ops o->uN ((ops.take k).take i) (pvs.take i) (zD T0) t=zD T t:=λt ht=>At.same D hpl (At.text D hlen i oM) hat λj oj hj hoj hd=>by rcases D.look i o t j oj hik hj ho hoj ht hd with⟨q1,q2⟩|⟨q1,q2⟩;{exact .inl ⟨q1,wB hcl ho hE q2⟩};{refine .inr ⟨by omega,λhl=>?_⟩;have:=wB hcl hoj (hcl j oj hoj hl) q2;rw[v8 oM true false] at h1;exact absurd this (by unfold Lst;rw[h1];decide)});have hLs:∀ j,Lst (L.setIfInBounds i true) j↔Lst L j\/j=i:=qL hsize;have hnext:∀ {a':Act} {w':World} {S':Nat->Nat->Prop} {β':Bm} {T':List (Nat×PV)} {objs3:List (Nat×Obj')},zD T'=upd (zD T) o.dst pvs[i]->Sim w0 S0 K0 N (zD T') objs3 a' w' S' β'->(∀ y,y∈objs3↔EMem ops es k O0 X (Lst (L.setIfInBounds i true)) y)->wpAny Pg .any ops.toArray Q fuel (L.setIfInBounds i true) a' w':=by intro a' w' S' β' T' objs3 hT hsim g1;refine ih (L.setIfInBounds i true) (by simpa using hsz) (λj hj hkj hl=>?_) (λj oj hoj hl=>?_) ?_ hsim g1 (by rw[hT];exact hat.step D hik ho hp λj=>qL hsize j);{rcases (qL hsize j).1 hl with hl|hl;{exact hge j hj hkj hl};{omega}};{intro e he hb;rw[qL hsize];rcases (qL hsize j).1 hl with hl|hl;{exact .inl (hcl j oj hoj hl e he hb)};{subst hl;rw[ho] at hoj;cases hoj;exact .inl (hE e he hb)}};{have:=YX h1 hlt;omega}
    cases hst i o pvs[i] (by rw[u5 hik];exact ho) hp with
    | @mk d x hmk hpv hO =>
     obtain⟨hgn,hod,t0,hop0,hno0,hx0⟩:=fJ hmk;have hinms:(d,x)∈ms:=(hms _).2 ⟨i,o,hik,ho,hmk⟩;obtain⟨f1,f2,f3,f4⟩:=hfr d x hinms;have uniq:∀ j oj,j<k->ops[j]?=some oj->oj.dst=some d->j=i:=λj oj hj hoj hd' =>
      pW D.dst (by rw[u5 hj];exact hoj) (by rw[u5 hik];exact ho) hd' hod
     (have hnoE:∀ j,j<k->y7 es j=some d->¬Lst L j:=λj hj hje hjl=>by have hjo:ops[j]?=some ops[j]:=uZ oM;exact hnl (wB hcl hjo (hcl j _ hjo hjl) (hanc j d i o x hj hje hik ho hmk)));refine rG ho (.inl ⟨by simp[Region.wanted,hgn],LX hmk (hdst o (z8 ho)) h f1 (λt=>?_) (λ{m y} hmy=>?_) λa' w' β' hsim=>?_⟩)
     {by_cases hw:∃ j oj,j<k/\Lst L j/\ops[j]?=some oj/\oj.dst=some t;{obtain⟨j,oj,q1,q2,q3,q4⟩:=hw;have hpj:pvs[j]?=some pvs[j]:=uZ oM;rw[hat.hit j oj t _ q1 q2 q3 hpj q4,<-htx.hit j oj t _ q1 q1 q3 hpj q4];refine f4 t λe=>?_;subst e;exact hnl (uniq j oj q1 q3 q4 ▸ q2)};{rw[hat.miss t λj oj q1 q2 q3 q4=>hw ⟨j,oj,q1,q2,q3,q4⟩];exact f2 t}}
     ·rcases (hin _).1 hmy with⟨q|⟨j,oj,q1,q2,q3,q4⟩,_⟩|⟨j,q1,q2,q3,q4⟩;{exact f3 m y q};{obtain⟨_,hodj,t1,_,hno1,hy1⟩:=fJ q4;refine⟨λe=>?_,?_⟩;{subst e;exact hnl (uniq j oj q1 q3 hodj ▸ q2)};{rw[hy1];exact VR hno1}}
      ·refine⟨λe=>?_,?_⟩;{simp only at q2;rw[e] at q2;exact hnoE j q1 q2 q3}
       ·have hjo:ops[j]?=some ops[j]:=uZ oM;have hpj:pvs[j]?=some pvs[j]:=uZ oM;cases hst j ops[j] pvs[j] (by rw[u5 q1];exact hjo) hpj with
        |mk hmk' _ _=>rw[hmkE j _ _ hjo hmk'] at q2;cases q2
        |pure _ he' _ _=>rw[he'] at q2;cases q2
        |eff hm' he' h0' hfree' hg' hgo' hO' =>
         rw[he'] at q2;cases q2;have:=hX j _ _ q1 he' (by rw[hO'];exact hXin _ _ _ _ h0');have q4':X j=y:=q4;rw[<-q4',this];exact hfree' d x hinms
     {have hT:zD (put ⟨T,[]⟩ o.dst pvs[i]).tmps=upd (zD T) o.dst pvs[i]:=xL _ _ _;rw[<-hpv,<-hT] at hsim;refine hnext hT hsim λy=>?_;rw[w6,cM,EMem.mk ho hik hmk (hmkE i o _ ho hmk) hnoE hLs y,hin y]}
    | @eff n x x0 hm he h0 hfree hg hgo hO =>
     have hxX:X i=x:=hX i n x hik he (by rw[hO];exact hXin _ _ _ _ h0);have hne:∀ {y:Nat×Obj'} {M:Nat->Prop},y.1=n->¬M i->EMem ops es k O0 X M y->(y∈O0\/∃ j oj,j<k/\M j/\ops[j]?=some oj/\vK oj=some y):=λ{y M} hy hMi hE=>by rcases hE with⟨q,_⟩|⟨j,q1,q2,q3,q4⟩;{exact q};{rw[hy] at q2;have:=hinj q2 he;subst this;exact absurd q3 hMi}
     (have hx0:=hne (y:=(n,x0)) rfl oM ((hOb i hik _).1 (xG h0));have hnoL:¬∃ j,j<k/\y7 es j=some n/\Lst L j:=λ⟨j,q1,q2,q3⟩=>hnl (hinj q2 he ▸ q3);have hin0:(n,x0)∈objs':=by rw[hin];refine .inl ⟨?_,hnoL⟩;rcases hx0 with q|⟨j,oj,q1,q2,q3,q4⟩;{exact .inl q};{exact .inr ⟨j,oj,q1,wB hcl ho hE (hanc i n j oj x0 hik he q1 q3 q4),q3,q4⟩});have hget:yK objs' n=some x0:=uK h.obj.nd hin0;have hs0:=hgo T objs' (λt ht=>(hagree t ht).symm) hget;have hnin:n∈objs'.map Prod.fst:=y9.2 ⟨_,hin0,rfl⟩;refine rG ho (.inl ⟨by simp[Region.wanted,hg],c8 (ps:=⟨T,objs'⟩) h hs0 hdo λps' a' w' S' β' hK hsim=>?_⟩);obtain⟨hK1,hK2⟩:=hK;rw[hK2] at hsim;refine hnext hK1 hsim λy=>?_;obtain⟨y1,y2⟩:=y;rw[Zc h.obj.nd hnin,EMem.eff hinj ho hik hm he hLs,hin,hxX]
    |pure hm he hs1 hO =>
     have hgo:∀ n o,yK lim n=some o->yK objs' n=some o:=λn o hg=>by obtain⟨q1,q2⟩:=hlim n o hg;exact uK h.obj.nd ((hin _).2 (.inl ⟨.inl q1,λ⟨j,_,q3,_⟩=>q2 j q3⟩))
     (have hs2:vS true lim ops o (zD T) pvs[i]:=mO hagree hs1;have hfin:∀ y,y∈objs'↔EMem ops es k O0 X (Lst (L.setIfInBounds i true)) y:=λy=>by rw[EMem.pure ho hm he hLs y,hin y]);refine rG ho ?_
     rcases dQ h.tmp hs2 with⟨hw,hA⟩|⟨hw,hB⟩;{refine .inl ⟨hw,KI h (V7 hgo hA) λpv w' S' β' v hpv l hr=>?_⟩;refine hnext (S':=S') (β':=β') (T':=(put ⟨T,[]⟩ o.dst pvs[i]).tmps) (xL _ _ _) ?_ hfin;rw[xL];exact l.put o.dst hdo (hr.le _ hpv)};{refine .inr ⟨hw,hnext (S':=S) (β':=β) (T':=(put ⟨T,[]⟩ o.dst pvs[i]).tmps) (xL _ _ _) ?_ hfin⟩;rw[xL];refine h.put o.dst hdo ?_;rw[hB];exact oT _ _ _}
theorem oL {P:List Nat}{w:World}{S:Nat->Nat->Prop}{β:Bm}{v:Value}{pv:PV}(h:Rep w S β v pv):Rep w S β v (scA P pv):=by
 cases pv with
 |agg cs=>exact xV _| tup cs=>exact xV _| fn f cs=>exact xV _| ptr m off=>simp only[scA];cases yJ m P <;> first|exact h|exact xV _
 |aptr m s i off=>simp only[scA];cases yJ m P <;> first|exact h|exact xV _
 |osl m s i len=>simp only[scA];cases yJ m P <;> first|exact h|exact xV _
 |mpv m=>simp only[scA];cases yJ m P <;> first|exact h|exact xV _
 |_=>exact h
theorem U6 {P:List Nat}{w:World}{S:Nat->Nat->Prop}{β:Bm}{v:Value}{pv:PV}(h:Rep w S β v pv):Rep w S β v (scB P pv):=by
 cases pv with
 |agg cs =>
  obtain⟨vs,rfl,h1,h2⟩:=kC h;exact .agg (by grind [zO]) λj hj=>by rw[zO] at hj;rw[yQ _ rfl];grind [oL]
 |tup cs =>
  obtain⟨vs,rfl,h1,h2⟩:=dH h;exact .tup (by grind [zO]) λj hj=>by rw[zO] at hj;rw[yQ _ rfl];grind [oL]
 |fn f cs =>
  obtain⟨vs,rfl,h1,h2⟩:=dJ h;exact .fn (by grind [zO]) λj hj=>by rw[zO] at hj;rw[yQ _ rfl];grind [oL]
 |_=>first|exact oL (P:=P) h|exact h
theorem nY {P:List Nat}{w:World}{S:Nat->Nat->Prop}{β:Bm}{v:Value}{pv:PV}(h:Rep w S β v pv):Rep w S β v (scC P pv):=by
 cases pv with
 |agg cs =>
  obtain⟨vs,rfl,h1,h2⟩:=kC h;exact .agg (by grind [zO]) λj hj=>by rw[zO] at hj;rw[yQ _ rfl];grind [U6]
 |tup cs =>
  obtain⟨vs,rfl,h1,h2⟩:=dH h;exact .tup (by grind [zO]) λj hj=>by rw[zO] at hj;rw[yQ _ rfl];grind [U6]
 |fn f cs =>
  obtain⟨vs,rfl,h1,h2⟩:=dJ h;exact .fn (by grind [zO]) λj hj=>by rw[zO] at hj;rw[yQ _ rfl];grind [U6]
 |_=>exact oL (P:=P) h
theorem aY (f g h:PV->PV)(H:∀ v,f (g v)=h v):∀ l:List PV,w8 f (w8 g l)=w8 h l
 |[]=>rfl| v::r=>by simp only[w8,H,aY f g h H r]
theorem tP (f g:PV->PV)(H:∀ v,f v=g v):∀ l:List PV,w8 f l=w8 g l
 |[]=>rfl| v::r=>by simp only[w8,H,tP f g H r]
theorem BR (m n:Nat):nqb m n=nqb n m:=by grind [nqb]
theorem XE {P P':List Nat}(H:∀ m,yJ m P=true->yJ m P'=true)(v:PV):scA P' (scA P v)=scA P' v:=by
 have key:∀ {m:Nat} {x:PV},(∀ y,scA P' y=scA P' y)->(yJ m P'=true->scA P' x=.any)->scA P' (match yJ m P with|true=>PV.any|false=>x)=scA P' x:=by
  intro m x _ hx;cases h:yJ m P with
  |true=>rw[hx (H m h)];rfl
  |false=>rfl
 cases v with
 |ptr m off=>exact key (λ_=>rfl) (λh=>by simp only[scA,h])| aptr m s i off=>exact key (λ_=>rfl) (λh=>by simp only[scA,h])| osl m s i len=>exact key (λ_=>rfl) (λh=>by simp only[scA,h])| mpv m=>exact key (λ_=>rfl) (λh=>by simp only[scA,h])| _=>rfl
def mL:PV->Bool
 |.agg _=>true| .tup _=>true| .fn _ _=>true| _=>false
theorem HC {P:List Nat}{v:PV}(h:mL v=false):scB P v=scA P v:=by cases v <;> first|rfl|cases h
theorem HB {P:List Nat}{v:PV}(h:mL v=false):scC P v=scA P v:=by cases v <;> first|rfl|cases h
theorem HD {n:Nat}{v:PV}(h:mL v=false):sc1 n v=sc0 n v:=by cases v <;> first|rfl|cases h
theorem Hy {n:Nat}{v:PV}(h:mL v=false):scr n v=sc0 n v:=by cases v <;> first|rfl|cases h
theorem Bw {n:Nat}{v:PV}(h:mL v=false):rf1 n v=rf0 n v:=by cases v <;> first|rfl|cases h
theorem Bv {n:Nat}{v:PV}(h:mL v=false):xN n v=rf0 n v:=by cases v <;> first|rfl|cases h
theorem Zv (P:List Nat)(v:PV):mL (scA P v)=false:=by
 cases v with
 |ptr m off=>simp only[scA];cases yJ m P <;> rfl
 |aptr m s i off=>simp only[scA];cases yJ m P <;> rfl
 |osl m s i len=>simp only[scA];cases yJ m P <;> rfl
 |mpv m=>simp only[scA];cases yJ m P <;> rfl
 |_=>rfl
theorem JX (n:Nat)(v:PV):mL (sc0 n v)=false:=by
 cases v with
 |ptr m off=>simp only[sc0];cases nqb m n <;> rfl
 |aptr m s i off=>simp only[sc0];cases nqb m n <;> rfl
 |osl m s i len=>simp only[sc0];cases nqb m n <;> rfl
 |mpv m=>simp only[sc0];cases nqb m n <;> rfl
 |_=>rfl
theorem CO {P P':List Nat}(H:∀ m,yJ m P=true->yJ m P'=true)(v:PV):scB P' (scB P v)=scB P' v:=by
 cases hv:mL v with
 |false=>grind [HC,Zv,XE]| true=>cases v <;> first|(cases hv;done)|(simp only[scB];rw[aY _ _ _ (XE H)])
theorem KO {P P':List Nat}(H:∀ m,yJ m P=true->yJ m P'=true)(v:PV):scC P' (scC P v)=scC P' v:=by
 cases hv:mL v with
 |false=>grind [HB,Zv,XE]| true=>cases v <;> first|(cases hv;done)|(simp only[scC];rw[aY _ _ _ (CO H)])
theorem U8 (n:Nat)(P:List Nat)(v:PV):sc0 n (scA P v)=scA (n::P) v:=by
 have e:∀ m,yJ m (n::P)=(nqb m n || yJ m P):=λm=>by show (nqb n m || yJ m P)=_;rw[BR]
 cases v with
 |ptr m off=>grind [scA,sc0]| aptr m s i off=>grind [scA,sc0]| osl m s i len=>grind [scA,sc0]| mpv m=>grind [scA,sc0]| _=>rfl
theorem Rl (n:Nat)(P:List Nat)(v:PV):sc1 n (scB P v)=scB (n::P) v:=by
 cases hv:mL v with
 |false=>grind [HC,HD,Zv,U8]| true=>cases v <;> first|(cases hv;done)|(simp only[scB,sc1];rw[aY _ _ _ (U8 n P)])
theorem GP (n:Nat)(P:List Nat)(v:PV):scr n (scC P v)=scC (n::P) v:=by
 cases hv:mL v with
 |false=>grind [HB,Hy,Zv,U8]| true=>cases v <;> first|(cases hv;done)|(simp only[scC,scr];rw[aY _ _ _ (Rl n P)])
theorem ZN {P P':List Nat}(H:∀ m,yJ m P=yJ m P')(v:PV):scA P v=scA P' v:=by
 cases v with
 |ptr m off=>simp only[scA,H]| aptr m s i off=>simp only[scA,H]| osl m s i len=>simp only[scA,H]| mpv m=>simp only[scA,H]| _=>rfl
theorem Dm {P P':List Nat}(H:∀ m,yJ m P=yJ m P')(v:PV):scB P v=scB P' v:=by
 cases hv:mL v with
 |false=>grind [HC,ZN]| true=>cases v <;> first|(cases hv;done)|(simp only[scB];rw[tP _ _ (ZN H)])
theorem cX {P P':List Nat}(H:∀ m,yJ m P=yJ m P')(v:PV):scC P v=scC P' v:=by
 cases hv:mL v with
 |false=>grind [HB,ZN]| true=>cases v <;> first|(cases hv;done)|(simp only[scC];rw[tP _ _ (Dm H)])
theorem HU (n:Nat)(v:PV):rf0 n (sc0 n v)=true:=by
 cases v with
 |ptr m off=>grind [sc0,rf0]| aptr m s i off=>grind [sc0,rf0]| osl m s i len=>grind [sc0,rf0]| mpv m=>grind [sc0,rf0]| _=>rfl
theorem l4 {f:PV->Bool}{g:PV->PV}(H:∀ v,f (g v)=true):∀ l:List PV,y4 f (w8 g l)=true
 |[]=>rfl| v::r=>by simp only[w8,y4,H,l4 H r];rfl
theorem MM (n:Nat)(v:PV):rf1 n (sc1 n v)=true:=by
 cases hv:mL v with
 |false=>grind [HD,Bw,JX,HU]| true=>cases v <;> first|(cases hv;done)|exact l4 (HU n) _
theorem HT (n:Nat)(v:PV):xN n (scr n v)=true:=by
 cases hv:mL v with
 |false=>grind [Hy,Bv,JX,HU]| true=>cases v <;> first|(cases hv;done)|exact l4 (MM n) _
theorem Ge {n:Nat}(hn:n<1000000)(T:List (Nat×PV))(O:List (Nat×Obj')):yO n ⟨wF (scr n) T,xB (scr n) (xP O n)⟩=true:=by
 have h1:∀ T:List (Nat×PV),pI n (wF (scr n) T)=true:=by
  intro T;induction T with
  |nil=>rfl| cons a r ih=>grind [wF,pI,HT]
 have h2:xO n (xB (scr n) (xP O n))=true:=Yv hn λm o hm=>by
  obtain⟨o',q1,q2⟩:=wW _ hm;refine⟨(wX q1).2,?_⟩;cases o' with
  |box cs=>subst q2;exact l4 (HT n) cs| arr s e=>subst q2;trivial| log s e=>subst q2;trivial| lent s e=>subst q2;trivial| mp t k=>subst q2;trivial| mat s r q=>subst q2;exact oZ (HT n) q
 grind [yO]
def scO (P:List Nat):Obj'->Obj':=x7 (scC P)
theorem aO (P:List Nat){l:List (Nat×Obj')}{y:Nat×Obj'}:y∈xB (scC P) l↔∃ o,(y.1,o)∈l/\y.2=scO P o:=by
 constructor;{intro h;exact wW (n:=y.1) (o:=y.2) _ h}
 ·(rintro⟨o,h1,h2⟩;have:=pN (scC P) h1;have e:y=(y.1,x7 (scC P) o):=by rw[<-show scO P o=x7 (scC P) o from rfl,<-h2]);grind
theorem CN {P:List Nat}{w:World}{S:Nat->Nat->Prop}{β:Bm}{n:Nat}{o:Obj'}(h:ObjAt w S β n o):ObjAt w S β n (scO P o):=ObjAt.map rfl (λ_ _ hx=>nY hx) h
theorem GQ {P:List Nat}{o:Obj'}{i:Nat}(h:gF o i):gF (scO P o) i:=pJ h
theorem Uv (f g h:PV->PV)(H:∀ v,f (g v)=h v):∀ l:List (PV×(Unit->Nat)),gQ f (gQ g l)=gQ h l
 |[]=>rfl| (v,k)::r=>by simp only[gQ,H,Uv f g h H r]
theorem Wo (f g:PV->PV)(H:∀ v,f v=g v):∀ l:List (PV×(Unit->Nat)),gQ f l=gQ g l
 |[]=>rfl| (v,k)::r=>by simp only[gQ,H,Wo f g H r]
theorem YC (f g h:PV->PV)(H:∀ v,f (g v)=h v)(o:Obj'):x7 f (x7 g o)=x7 h o:=by
 cases o with
 |box cs=>grind [x7,aY]| mat s r q=>grind [x7,Uv]| _=>rfl
theorem YD (f g:PV->PV)(H:∀ v,f v=g v)(o:Obj'):x7 f o=x7 g o:=by
 cases o with
 |box cs=>simp only[x7];rw[tP _ _ H]| mat s r q=>simp only[x7];rw[Wo _ _ H]| _=>rfl
theorem KN {P P':List Nat}(H:∀ m,yJ m P=true->yJ m P'=true)(o:Obj'):scO P' (scO P o)=scO P' o:=YC _ _ _ (KO H) o
theorem Hz {P P':List Nat}(H:∀ m,yJ m P=yJ m P'):scO P=scO P':=funext λo=>YD _ _ (cX H) o
theorem nX {P P':List Nat}(H:∀ m,yJ m P=yJ m P')(o:Obj'):scO P o=scO P' o:=YD _ _ (cX H) o
theorem Sim.weak {τ τ':Nat->PV}{objs objs':List (Nat×Obj')}{a:Act}{w:World}{S:Nat->Nat->Prop}{β:Bm}(h:Sim w0 S0 K0 N τ objs a w S β)(hτ:∀ t v,Rep w S β v (τ t)->Rep w S β v (τ' t))(hnd:(objs'.map Prod.fst).Nodup) (ho:∀ n o',(n,o')∈objs'->∃ o,(n,o)∈objs/\(ObjAt w S β n o->ObjAt w S β n o')/\(∀ i,gF o i->gF o' i)/\∀ b,Own β n o' b->Own β n o b):Sim w0 S0 K0 N τ' objs' a w S β where
 dfr:=h.dfr
 sz:=h.sz
 ld:=h.ld
 tmp t:=hτ t _ (h.tmp t)
 obj:=⟨hnd,λn o hm=>by obtain⟨o1,q1,q2,_⟩:=ho n o hm;exact q2 (h.obj.at_ n o1 q1),
  λn o b hm hβ=>by obtain⟨o1,q1,_,q3,q4⟩:=ho n o hm;exact⟨λi hS=>q3 i ((h.obj.un n o1 b q1 (q4 b hβ)).1 i hS),(h.obj.un n o1 b q1 (q4 b hβ)).2⟩,
  λn o m o' b hm hm' hβ hβ'=>by obtain⟨x,q1,_,_,g1⟩:=ho n o hm;obtain⟨y,q2,_,_,g2⟩:=ho m o' hm';exact h.obj.inj _ _ _ _ b q1 q2 (g1 b hβ) (g2 b hβ')⟩
 own n o b hm hβ:=by obtain⟨x,q1,_,_,g1⟩:=ho n o hm;exact h.own n x b q1 (g1 b hβ)
 keep n o hm hb:=by obtain⟨x,q1,_⟩:=ho n o hm;exact h.keep n x q1 hb
def PL (B:Nat->Bool):List (Nat×Nat)->List Nat
 |[]=>[]| (e,m)::r=>(match B e with|true=>m::PL B r|false=>PL B r)
theorem fT:∀ {l:List Nat} {n:Nat},yJ n l=true↔n∈l:=λ{l n}=>⟨vC,sW⟩
theorem fQ {B:Nat->Bool}{m:Nat}:∀ {es:List (Nat×Nat)},m∈PL B es↔∃ e,(e,m)∈es/\B e=true
 |[]=>by simp[PL]| (e,x)::r=>by
  unfold PL;cases hb:B e with
  |true =>
   simp only[yR,fQ (es:=r)];grind
  |false =>
   simp only[fQ (es:=r),yR];grind
theorem Z8 {an:List Nat}{i m:Nat}:∀ {es:List (Nat×Nat)},m∈dB an i es↔∃ e,(e,m)∈es/\(an.getD e 0).testBit i=false
 |[]=>by simp[dB]| (e,x)::r=>by
  unfold dB;cases hb:(an.getD e 0).testBit i with
  |true =>
   simp only[Z8 (es:=r),yR];grind
  |false =>
   simp only[yR,Z8 (es:=r)];grind
theorem kK (P:List Nat):∀ (T:List (Nat×PV)) (t:Nat),zD (sY P T) t=(match yJ t P with|true=>zD T t|false=>scC P (zD T t))
 |[],t=>by grind [sY,zD,scC,scA]| (u,v)::r,t=>by
  simp only[sY,zD];cases hu:nqb u t with
  |true=>grind [y8]| false=>exact kK P r t
inductive ApStep (ops:List Oper) (es:List (Nat×Nat)) (an:List Nat) (lim:List (Nat×Obj')) (i:Nat) (o:Oper) (τ:Nat->PV) (pv:PV) (O O':List (Nat×Obj')):Prop
 |app {n x x0} (he:y7 es i=some n) (hd:o.dst=some n) (hg:o.guard=none) (h0:yK O n=some x0) (hpv:∀ e m,(e,m)∈es->(an.getD i 0).testBit e=false->m≠n->scr m pv=pv) (hx0:∀ P,scO P x0=x0) (hx:∀ P,scO P x=x)
   (hfix:∀ t,t∈qY ops o->(∃ a b c,τ t=.osl n a b c)\/(∀ P,scC P (τ t)=τ t)\/t∈Ha an i es)
   (hgo:∀ (T':List (Nat×PV)) (O1:List (Nat×Obj')),(∀ t,t∈qY ops o->zD T' t=τ t)->yK O1 n=some x0->yO n ⟨wF (scr n) T',xB (scr n) (xP O1 n)⟩=true ->
    ∃ ps1,Wk ⟨T',O1⟩ ps1/\cG o ps1 (λp=>zD p.tmps=upd (λt=>scr n (zD T' t)) (some n) pv/\p.objs=xB (scr n) (xP O1 n)++[(n,x)])) (hO:O'=setO O n x)
 |pure (he:y7 es i=none) (h:vS false (xB (scC (dB an i es)) lim) ops o (λt=>scC (dB an i es) (τ t)) pv) (hO:O'=O)
theorem Zi {v:PV}(h:jV v=true):v=.nil\/v=.emp:=by cases v <;> first|exact .inl rfl|exact .inr rfl|exact absurd h (by simp[jV])
theorem Pn {ops:List Oper}{o:Oper}{n:Nat}{T:List (Nat×PV)}{O:List (Nat×Obj')}{K:PV->Obj'->Prop}(h:Nm o n T O K):∃ pv x x0,K pv x/\o.dst=some n/\o.guard=none/\yK O n=some x0/\(∀ m,m≠n->scr m pv=pv)/\(∀ P,scO P x0=x0)/\(∀ P,scO P x=x) /\ (∀ t,t∈qY ops o->(∃ a b c,zD T t=.osl n a b c)\/∀ P,scC P (zD T t)=zD T t) /\ ∀ (T':List (Nat×PV)) (O1:List (Nat×Obj')),(∀ t,t∈qY ops o->zD T' t=zD T t)->yK O1 n=some x0->yO n ⟨wF (scr n) T',xB (scr n) (xP O1 n)⟩=true ->∃ ps1,Wk ⟨T',O1⟩ ps1/\cG o ps1 (λp=>zD p.tmps=upd (λt=>scr n (zD T' t)) (some n) pv/\p.objs=xB (scr n) (xP O1 n)++[(n,x)]):=by
 have sn:∀ (m s:Nat) (a b:Unit->Nat),m≠n->scr m (.osl n s a b)=.osl n s a b:=λm s a b h=>by
  simp only[scr,sc0];cases e:nqb n m with
  |true=>exact absurd (y8 e).symm h| false=>rfl
 unfold Nm at h;cases hg:o.guard with
 |some g=>grind| none =>
 rw[hg] at h;simp only at h;split at h
 ·rename_i c hop;split at h
  ·rename_i hcl;split at h
   ·rename_i b x t tx d hargs htys hd;split at h
    ·(rename_i hc;simp only[yS] at hc;have hdn:=y8 hc.2;subst hdn;obtain⟨s,bb,z,xs,lg,els,h1,h2,h3,h5,hcase⟩:=h.h;have hmk:∀ (e:Unit->List (List D)) (P:List Nat),scO P (fX lg s e)=fX lg s e:=λe P=>by cases lg <;> rfl);have hlk:∀ u,u∈qY ops o->(b=.tmp u\/x=.tmp u):=λu hu=>by
      (unfold qY at hu;rw[hg] at hu;simp only[uT] at hu;rw[List.mem_filterMap] at hu;obtain⟨y,hy1,hy2⟩:=hu;have hy3:y=b\/y=x:=by grind [Op.operands,Call.operands]);grind
     rcases hcase with⟨o',len,h4,h6,h7,h8,h9⟩|⟨h4,h8,h9⟩
     ·refine⟨_,_,_,h9,hd,rfl,h5,λm=>sn m _ _ _,hmk _,hmk _,λu hu=>?_,λT' O1 hT hO hfr=>⟨_,.refl _,?_⟩⟩;{rcases hlk u hu with e|e;{rw[e] at h4;exact .inl ⟨_,_,_,h4⟩};{rw[e] at h2;rcases h2 with h2|⟨h2,_⟩;{exact .inr λP=>by rw[show zD T u=_ from h2];rfl};{exact .inr λP=>by rw[show zD T u=_ from h2];rfl}}}
      ·(have hev:=Zf hg hT;have e1:ev (zD T') b=.osl d s o' len:=by grind [Op.operands,Call.operands]);have e2:ev (zD T') x=ev (zD T) x:=hev x (by grind [Op.operands,Call.operands])
       unfold cG;simp only[hop,hcl];rw[hargs,htys];simp only[hc.1];refine⟨.inl ⟨⟨T',O1⟩,d,d,s,bb,z,xs,.refl _,hd,h1,.inl (by grind),h3,.inr ⟨lg,d,o',len,els,els,e1,hO,h6,h7,by rw[h7];simp,λ_=>rfl,h8,hfr,?_,rfl⟩⟩⟩;grind [gR,upd,uO,aF]
     ·refine⟨_,_,_,h9,hd,rfl,h5,λm=>sn m _ _ _,hmk _,λ_=>rfl,λu hu=>?_,λT' O1 hT hO hfr=>⟨_,.refl _,?_⟩⟩;{rcases hlk u hu with e|e;{rw[e] at h4;rcases Zi h4 with h4|h4;{exact .inr λP=>by rw[show zD T u=_ from h4];rfl};{exact .inr λP=>by rw[show zD T u=_ from h4];rfl}};{rw[e] at h2;rcases h2 with h2|⟨h2,_⟩;{exact .inr λP=>by rw[show zD T u=_ from h2];rfl};{exact .inr λP=>by rw[show zD T u=_ from h2];rfl}}}
      ·(have hev:=Zf hg hT;have e1:jV (ev (zD T') b)=true:=by grind [Op.operands,Call.operands]);have e2:ev (zD T') x=ev (zD T) x:=hev x (by grind [Op.operands,Call.operands])
       have hsc:∀ (y:Operand),(jV (ev (zD T') y)=true\/∃ a,ev (zD T') y=.sl a)->ev (zD (wF (scr d) T')) y=ev (zD T') y:=λy hy=>by
        cases y with
        |tmp u =>
         have e:ev (zD (wF (scr d) T')) (.tmp u)=scr d (ev (zD T') (.tmp u)):=uO _ (aF d) _ _;rw[e];rcases hy with hy|⟨a,hy⟩;{rcases Zi hy with hy|hy <;> rw[hy] <;> rfl};{rw[hy];rfl}
        |_=>rfl
       (have e3:jV (ev (zD (wF (scr d) T')) b)=true:=by grind);have e4:ev (zD (wF (scr d) T')) x=ev (zD T) x:=by grind [jV]
       unfold cG;simp only[hop,hcl];rw[hargs,htys];simp only[hc.1];refine⟨.inl ⟨⟨wF (scr d) T',xB (scr d) (xP O1 d)⟩,d,d,s,bb,z,xs,.drop d,hd,h1,.inl (by grind),h3,.inl ⟨e3,h8,hfr,?_,rfl⟩⟩⟩;grind [gR,upd,uO,aF]
    grind
   grind
  ·rename_i g hcl;split at h
   ·rename_i d hd;split at h
    ·rename_i hc;have hdn:=y8 hc;subst hdn;obtain⟨f,caps,hn,cargs,m,k,s,els,els',o',l',h1,h2,h3,h4,hm,hkd,h5,h6,h7,h8⟩:=h.h;have hlk:∀ u,u∈qY ops o->.tmp u∈c.args.toList:=λu hu=>by
      (unfold qY at hu;rw[hg] at hu;simp only[uT] at hu;rw[List.mem_filterMap] at hu;obtain⟨y,hy1,hy2⟩:=hu;have:y=.tmp u:=by grind);subst this
      rw[hop] at hy1;simp only[Op.operands,Call.operands,hcl,Array.toList_append,w6] at hy1;rcases hy1 with hy1|hy1;{simp at hy1;subst hy1;cases h2};omega
     have hfx:∀ (l:List Operand) (u:Nat),Operand.tmp u∈l->y4 (Nc d) (evs (ev (zD T)) l)=true->Nc d (zD T u)=true:=by
      intro l u;induction l with
      |nil=>grind| cons y l ih =>
       intro h q;simp only[evs,y4,yS] at q;rcases yR.1 h with e|h;{subst e;exact q.1};grind
     refine⟨_,_,_,h8,hd,rfl,h5,λm=>sn m _ _ _,λ_=>rfl,λ_=>rfl,λu hu=>?_,λT' O1 hT hO hfr=>⟨_,.refl _,?_⟩⟩
     ·have:=hfx _ u (hlk u hu) h7;generalize zD T u=v at this ⊢;cases v with
      |osl m' a b c =>
       have e:=y8 (show nqb m' d=true from this);grind
      |agg _=>cases this
      |tup _=>cases this
      |fn _ _=>cases this
      |ptr _ _=>cases this
      |aptr _ _ _ _=>cases this
      |mpv _=>cases this
      |_=>exact .inr λP=>rfl
     ·(have hev:=Zf hg hT;have e1:ev (zD T') g=.fn f caps:=by grind [Op.operands,Call.operands]);have e2:evs (ev (zD T')) c.args.toList=evs (ev (zD T)) c.args.toList:=pU λy hy=>hev y (by grind [Op.operands,Call.operands])
      unfold cG;simp only[hop,hcl];refine⟨⟨T',O1⟩,.refl _,f,caps,e1,.inr ⟨hn,cargs,[],[(m,.arr s els)],_,[],[(k,.arr s els')],by grind,h4,⟨⟨by rw[hm];exact hO,rfl⟩,trivial⟩,rfl,rfl,rfl,rfl,?_,h6,rfl,?_,?_⟩⟩;{show (yO (hn k) (r5 hn [(m,.arr s els)] ⟨T',O1⟩)&&true)=true;rw[Bool.and_true,hkd];show yO d ⟨wF (scr (hn m)) T',xB (scr (hn m)) (xP O1 (hn m))⟩=true;grind};{show nmIn [k] (.osl k s o' l')=true;simp[nmIn,nm0,yJ]}
      ·have e3:aK hn [(m,.arr s els)] [] [(k,.arr s els')] ⟨T',O1⟩=⟨wF (scr d) T',xB (scr d) (xP O1 d)++[(d,.arr s els')]⟩:=by show (⟨wF (scr (hn m)) T',xB (scr (hn m)) (xP O1 (hn m))++[(hn k,.arr s els')]⟩:PS)=_;grind
       (rw[e3,hd];have e4:ren hn (.osl k s o' l')=.osl d s o' l':=by show PV.osl (hn k) s o' l'=_;rw[hkd]);rw[e4]
       refine⟨?_,rfl⟩;funext t;show zD (v4 (wF (scr d) T') d _) t=_;grind [gR,upd,uO,aF]
    grind
   grind
  grind
 ·rename_i t hop;split at h
  ·rename_i d x s els hm hO0;split at h
   ·rename_i hc;have hdn:=y8 hc;subst hdn;obtain⟨_,hd,t',hop',hno,hx⟩:=fJ hm;rw[hop] at hop';cases hop';subst hx;refine⟨_,_,_,h,hd,rfl,hO0,λm hm=>?_,λ_=>rfl,λP=>?_,λu hu=>?_,λT' O1 hT hO hfr=>⟨_,.drop d,?_⟩⟩
    ·simp only[scr,sc0];cases e:nqb d m with
     |true=>exact absurd (y8 e).symm hm| false=>rfl
    {show Obj'.box (w8 (scC P) (ty t).zero)=_;rw[Ks (Q:=λl=>w8 (scC P) l=l) hno rfl (λv l ih=>by simp only[w8,ih];congr 1;unfold wT;split <;> rfl) rfl]};{exfalso;unfold qY at hu;rw[hg,hop] at hu;simp[Op.operands] at hu};{unfold cG;simp only[hop,hd,hno];unfold ZZ;rw[hfr];refine⟨?_,rfl⟩;funext u;show zD (v4 (wF (scr d) T') d _) u=_;grind [gR,upd,uO,aF]}
   {cases h}
  {cases h}
 grind
theorem Vm {an:List Nat}{i m:Nat}:∀ {es:List (Nat×Nat)},m∈Ha an i es↔∃ e,(e,m)∈es/\(an.getD i 0).testBit e=true
 |[]=>by simp[Ha]| (e,x)::r=>by
  unfold Ha;cases hb:(an.getD i 0).testBit e with
  |true =>
   simp only[yR,Vm (es:=r)];grind
  |false =>
   simp only[Vm (es:=r),yR];grind
theorem Wf {an:List Nat}{i m:Nat}:∀ {es:List (Nat×Nat)},m∈DD an i es↔∃ e,(e,m)∈es/\(an.getD i 0).testBit e=false
 |[]=>by simp[DD]| (e,x)::r=>by
  unfold DD;cases hb:(an.getD i 0).testBit e with
  |true =>
   simp only[Wf (es:=r),yR];grind
  |false =>
   simp only[yR,Wf (es:=r)];grind
theorem Wp {f:PV->PV}{g:PV->Bool}(h:∀ v,g v=true->f v=v):∀ l,y4 g l=true->w8 f l=l
 |[],_=>rfl| v::r,q=>by simp only[y4,yS] at q;simp only[w8,h v q.1,Wp h r q.2]
theorem HE {n:Nat}{v:PV}(h:rf0 n v=true):sc0 n v=v:=by cases v <;> first|rfl|(cases h;done)|(simp only[rf0,Vs] at h;simp only[sc0,h])
theorem Mf {n:Nat}{v:PV}(h:rf1 n v=true):sc1 n v=v:=by
 cases hv:mL v with
 |false=>rw[HD hv];exact HE (by rwa [Bw hv] at h)| true=>cases v <;> first|(cases hv;done)|(simp only[sc1];rw[Wp (λ_=>HE) _ h])
theorem CM {n:Nat}{v:PV}(h:xN n v=true):scr n v=v:=by
 cases hv:mL v with
 |false=>rw[Hy hv];exact HE (by rwa [Bv hv] at h)| true=>cases v <;> first|(cases hv;done)|(simp only[scr];rw[Wp (λ_=>Mf) _ h])
theorem Aw {v:PV}(h:qV v=true)(P:List Nat):scC P v=v:=by cases v <;> first|rfl|cases h
theorem i6 {T:List (Nat×PV)}{n:Nat}{A:List Nat}:∀ {l:List (Nat×Operand)},n6 T n A l=true->∀ t,.tmp t∈l.map (·.2)->xN n (zD T t)=true/\(qV (zD T t)=true\/t∈A)
 |(j,x)::r,h,t,ht=>by
  rw[j3,yR] at ht;cases x with
  |tmp u =>
   simp only[n6,yS,Vw] at h;rcases ht with e|ht;{cases e;exact⟨h.1.1,h.1.2.imp id vC⟩};{exact i6 h.2 t ht}
  |_ =>
   rcases ht with e|ht;{cases e};{exact i6 (by simpa only [n6] using h) t ht}
 |[],_,t,ht=>by simp at ht
theorem Pv {ops:List Oper}{es:List (Nat×Nat)}{an:List Nat}{i:Nat}{o:Oper}{n:Nat}{T:List (Nat×PV)}{O:List (Nat×Obj')}{K:PV->Obj'->Prop}(h:NG es an i o n T O K):∃ pv x x0,K pv x/\o.dst=some n/\o.guard=none/\yK O n=some x0/\(∀ e m,(e,m)∈es->(an.getD i 0).testBit e=false->m≠n->scr m pv=pv)/\(∀ P,scO P x0=x0)/\(∀ P,scO P x=x) /\ (∀ t,t∈qY ops o->(∃ a b c,zD T t=.osl n a b c)\/(∀ P,scC P (zD T t)=zD T t)\/t∈Ha an i es) /\ ∀ (T':List (Nat×PV)) (O1:List (Nat×Obj')),(∀ t,t∈qY ops o->zD T' t=zD T t)->yK O1 n=some x0->yO n ⟨wF (scr n) T',xB (scr n) (xP O1 n)⟩=true ->∃ ps1,Wk ⟨T',O1⟩ ps1/\cG o ps1 (λp=>zD p.tmps=upd (λt=>scr n (zD T' t)) (some n) pv/\p.objs=xB (scr n) (xP O1 n)++[(n,x)]):=by
 unfold NG at h;split at h
 ·rename_i t parts d s els hg hop hd hO0;split at h
  ·rename_i nn fs z hty;split at h
   ·rename_i cs hcs;split at h
    ·(rename_i hc;simp only[yS] at hc;obtain⟨⟨hc1,hc2⟩,hc3⟩:=hc;have hdn:=y8 hc1;subst hdn;have hpo:=i6 hc2;have hops:∀ x,x∈parts.toList.map (·.2)->x∈o.op.operands.toList:=λx hx=>by rw[hop];simpa[Op.operands] using hx);have hops':∀ x,x∈o.op.operands.toList->x∈parts.toList.map (·.2):=λx hx=>by rw[hop] at hx;simpa[Op.operands] using hx
     have hlk:∀ u,u∈qY ops o↔.tmp u∈parts.toList.map (·.2):=λu=>by
      unfold qY;rw[hg];simp only[uT];rw[List.mem_filterMap];constructor
      ·(rintro⟨y,hy1,hy2⟩;have:y=.tmp u:=by grind);subst this
       exact hops' _ hy1
      {intro hu;exact⟨_,hops _ hu,rfl⟩}
     refine⟨_,_,_,h,hd,hg,hO0,λe m he hb hm=>?_,λ_=>rfl,λ_=>rfl,λu hu=>?_,λT' O1 hT hO hfr=>⟨_,.trans (.drop d) (.fresh d s hfr),?_⟩⟩
     ·have hall:∀ (l:List Nat),Y9 d (.agg cs) l=true->∀ m,m∈l->(nqb m d || xN m (.agg cs))=true:=by
       intro l;induction l with
       |nil=>grind| cons a r ih=>grind [Y9]
      have:=hall _ hc3 m (Wf.2 ⟨e,he,hb⟩);rw[Vw] at this;exact CM (this.resolve_left λq=>hm (y8 q))
     {obtain⟨g1,g2⟩:=hpo u ((hlk u).1 hu);exact .inr (g2.imp (λg=>Aw g) id)}
     ·have hev:vJ (ev (zD (wF (scr d) T'))) parts.toList=vJ (ev (zD T)) parts.toList:=bJ λy hy=>by
       cases y with
       |tmp u =>
        show zD (wF (scr d) T') u=zD T u;rw[uO _ (aF d),hT u ((hlk u).2 hy)];exact CM (hpo u hy).1
       |_=>rfl
      unfold cG;simp only[hop];unfold sop;simp only[hty];rw[hev,hcs,hd];refine⟨?_,rfl⟩;funext u;show zD (v4 (wF (scr d) T') d _) u=_;grind [gR,upd,uO,aF]
    {cases h}
   {cases h}
  {cases h}
 {cases h}
theorem Si {ops:List Oper}{es:List (Nat×Nat)}{an:List Nat}{lim:List (Nat×Obj')}{K:List (Nat×PV)->List (Nat×Obj')->Prop}:∀ (l:List Oper) (i:Nat) {T:List (Nat×PV)} {O:List (Nat×Obj')},Kd ops es an lim l i T O K ->∃ (pvs:List PV) (Ob:Nat->List (Nat×Obj')) (T':List (Nat×PV)),pvs.length=l.length/\Ob 0=O/\K T' (Ob l.length)/\zD T'=uN l pvs (zD T) /\ ∀ j o pv,l[j]?=some o->pvs[j]?=some pv->ApStep ops es an lim (i+j) o (uN (l.take j) (pvs.take j) (zD T)) pv (Ob j) (Ob (j+1))
 |[],i,T,O,h=>⟨[],λ_=>O,T,rfl,rfl,h,rfl,λj o pv h=>by simp at h⟩| o::r,i,T,O,h=>by
  obtain⟨pv,O1,T1,h1,ht1,hst⟩:∃ pv O1 T1,Kd ops es an lim r (i+1) T1 O1 K/\zD T1=upd (zD T) o.dst pv/\ApStep ops es an lim i o (zD T) pv O O1:=by
   unfold Kd at h;cases he:y7 es i with
   |some n =>
    rw[he] at h;simp only at h;cases hb:Ta o.op with
    |true =>
     rw[hb] at h;obtain⟨pv,x,x0,q1,q2,q3,q4,q5,q6,q7,q8,q9⟩:=Pv (ops:=ops) h;exact⟨pv,_,_,q1,xL _ _ _,.app he q2 q3 q4 q5 q6 q7 q8 q9 rfl⟩
    |false =>
     rw[hb] at h;obtain⟨pv,x,x0,q1,q2,q3,q4,q5,q6,q7,q8,q9⟩:=Pn (ops:=ops) h;exact⟨pv,_,_,q1,xL _ _ _,.app he q2 q3 q4 (λ_ m _ _=>q5 m) q6 q7 (λt ht=>(q8 t ht).imp id .inl) q9 rfl⟩
   |none =>
    rw[he] at h;simp only at h;have hm:zD (wF (scC (dB an i es)) T)=λt=>scC (dB an i es) (zD T t):=funext λt=>uO _ rfl _ _;rw[hm] at h;rcases mN h with⟨pv,q1,q2⟩|⟨q1,q2⟩;{obtain⟨pv',p,g1,g2,g3,g4⟩:=m5 q1;exact⟨pv',O,p.tmps,g2,g4,.pure he (q2 pv' g1) rfl⟩};{exact⟨.tup [],O,_,q1,xL _ _ _,.pure he q2 rfl⟩}
  obtain⟨pvs,Ob,T',g1,g2,g3,g4,g5⟩:=Si r (i+1) h1;refine⟨pv::pvs,λj=>match j with|0=>O|j+1=>Ob j,T',by simp[g1],rfl,by omega,by rw[g4,ht1];rfl,λj o' pv' hj hp=>?_⟩;cases j with
  |zero =>
   simp only[rV,rF] at hj hp;subst hj hp;show ApStep ops es an lim i o _ pv O (Ob 0);rw[g2];exact hst
  |succ j =>
   simp only[aA] at hj hp;have:=g5 j o' pv' hj hp;rw[ht1] at this;rw[show i+(j+1)=i+1+j by omega];exact this
theorem Ws:∀ {es:List (Nat×Nat)} {i m:Nat},y7 es i=none->(i,m)∉es
 |(a,b)::r,i,m,h,hm=>by
  unfold y7 at h;cases ha:nqb a i with
  |true=>grind| false =>
   rw[ha] at h;rcases yR.1 hm with e|hm;{simp_all};{exact Ws h hm}
 |[],i,m,_,hm=>by grind
theorem mP:∀ {es:List (Nat×Nat)} {m:Nat},m∈jC es↔∃ e,(e,m)∈es
 |[],m=>by simp[jC]| (e,x)::r,m=>by
  simp only[jC,yR,mP (es:=r)];constructor
  ·rintro (rfl|⟨e',h⟩)
   all_goals grind
  grind
def Vy (es:List (Nat×Nat)) (O0:List (Nat×Obj')) (X:Nat->Obj') (B:Nat->Bool) (y:Nat×Obj'):Prop :=
 ∃ o,(y.1,o)∈O0/\y.2=scO (PL B es) (match yJ y.1 (PL B es) with|true=>X y.1|false=>o)
theorem eZ {es:List (Nat×Nat)}{O0:List (Nat×Obj')}{X:Nat->Obj'}{B B':Nat->Bool}(h:∀ m,yJ m (PL B es)=yJ m (PL B' es))(y:Nat×Obj'):Vy es O0 X B y↔Vy es O0 X B' y:=by grind [Vy,nX]
theorem Tq {es:List (Nat×Nat)}{B B':Nat->Bool}(h:∀ e m,(e,m)∈es->B e=B' e)(m:Nat):yJ m (PL B es)=yJ m (PL B' es):=by rw[rT,fT,fT,fQ,fQ];grind
theorem NT {es:List (Nat×Nat)}{B B':Nat->Bool}{i n:Nat}(hi:(i,n)∈es)(hu:∀ m,(i,m)∈es->m=n)(hB:∀ e,B' e=(B e || nqb e i))(m:Nat):yJ m (PL B' es)=yJ m (n::PL B es):=by
 rw[rT,fT,fT,fQ,yR,fQ];constructor;{rintro⟨e,h1,h2⟩;rw[hB] at h2;simp only[Vw] at h2;grind [y8]}
 ·rintro (rfl|⟨e,h1,h2⟩)
  all_goals grind [nqb_self]
def Me (n:Nat):Obj'->Obj':=x7 (scr n)
theorem Nr {ops:List Oper}{k:Nat}(D:DrawOk ops k){Q:Exit->Act->World->Prop}{K:PS->Prop}(hdst:∀ o,o∈ops->mG N o=true)(hk:∀ ps' a' w' S' β',K ps'->Sim w0 S0 K0 N (zD ps'.tmps) ps'.objs a' w' S' β'->Q .normal a' w') {T0 T2:List (Nat×PV)} {O0 O2:List (Nat×Obj')} {pvs:List PV} {es:List (Nat×Nat)} {X:Nat->Obj'} {Ob:Nat->List (Nat×Obj')} (hkl:k<=ops.length) (hlen:pvs.length=(ops.take k).length) (hK:jF ops (ops.drop k) ⟨sY (jC es) T2,O2⟩ K) (ht2:zD T2=uN (ops.take k) pvs (zD T0)) (hO2:∀ y,y∈O2↔Vy es O0 X (λj=>decide (j<k)) y) (hnd2:(O2.map Prod.fst).Nodup) (hes:∀ e m,(e,m)∈es->e<k/\m<1000000/\y7 es e=some m) (hinj:∀ {i j n},y7 es i=some n->y7 es j=some n->i=j) (hst:∀ i o pv,(ops.take k)[i]?=some o->pvs[i]?=some pv->ApStep ops es (anc ops) (gV (jC es) O0) i o (uN ((ops.take k).take i) (pvs.take i) (zD T0)) pv (Ob i) (Ob (i+1))) (h0:∀ i n x0,i<k->y7 es i=some n->yK (Ob i) n=some x0->(n,x0)∈O0) (hX:∀ i n x x0,i<k->y7 es i=some n->yK (Ob i) n=some x0->Ob (i+1)=setO (Ob i) n x->X n=x) (hnd0:(O0.map Prod.fst).Nodup):∀ (fuel:Nat) (L:Array Bool) {a:Act} {w:World} {S:Nat->Nat->Prop} {β:Bm} {G:List (Nat×PV)} {objs':List (Nat×Obj')},L.size=ops.length->(∀ j,j<ops.length->k<=j->¬Lst L j)->(∀ i o,ops[i]?=some o->Lst L i->p8 (Lst L) o)->unl L ops.length<=fuel ->Sim w0 S0 K0 N (zD (sY (PL (λi=>L.getD i false) es) G)) objs' a w S β->(∀ y,y∈objs'↔Vy es O0 X (λi=>L.getD i false) y)->At ops k pvs (zD T0) (Lst L) (zD G)->wpAny Pg .any ops.toArray Q fuel L a w:=by
 have hpl:k<=pvs.length:=by grind
 have htx:At ops k pvs (zD T0) (λj=>j<k) (zD T2):=by have htx:=At.text (τ0:=zD T0) D hlen k (yX _);grind
 have hall1:∀ {L:Array Bool},(∀ j,j<k->Lst L j)->(∀ m,yJ m (PL (λi=>L.getD i false) es)=yJ m (jC es))/\∀ m,yJ m (PL (λi=>L.getD i false) es)=yJ m (PL (λj=>decide (j<k)) es):=by intro L hfull;refine⟨λm=>?_,Tq λe m he=>?_⟩;{rw[rT,fT,fT,fQ,mP];exact⟨λ⟨e,h1,_⟩=>⟨e,h1⟩,λ⟨e,h1⟩=>⟨e,h1,hfull e (hes e m h1).1⟩⟩};grind [Lst]
 have hendT:∀ {G:List (Nat×PV)} {L:Array Bool},(∀ j,j<k->Lst L j)->At ops k pvs (zD T0) (Lst L) (zD G)->zD (sY (PL (λi=>L.getD i false) es) G)=zD (sY (jC es) T2):=by
  (intro G L hfull hat;have hg:zD G=zD T2:=by funext t;exact hat.same D hpl htx λj o hj ho hd=>.inl ⟨hfull j hj,hj⟩);funext t;rw[kK,kK,hg,(hall1 hfull).1,cX (hall1 hfull).1]
 intro fuel;induction fuel with
 |zero =>
  (intro L a w S β G objs' hsz hge hcl hun h hin hat;have hall:=oI (Nat.le_zero.1 hun);have hall':∀ j,j<ops.length->Lst L j:=λj hj=>by have h1:=hall j hj;rw[v8 oM true false] at h1;exact h1);have hkn:ops.length<=k:=by rcases kO k ops.length with h'|h';{grind};omega
  have hfull:∀ j,j<k->Lst L j:=λj hj=>hall' j oM;refine UK D hdst hk 0 k L (ps:=⟨sY (jC es) T2,O2⟩) (S:=S) (β:=β) (yX _) hkl hsz (λj hj=>⟨λ_=>by omega,λ_=>hall' j hj⟩) oM ?_ hK;show Sim w0 S0 K0 N (zD (sY (jC es) T2)) O2 a w S β;rw[<-hendT hfull hat];exact h.perm (λx=>by rw[hO2 x,hin x,eZ (hall1 hfull).2 x]) hnd2
 |succ fuel ih =>
  intro L a w S β G objs' hsz hge hcl hun h hin hat;by_cases hfull:∀ j,j<k->Lst L j
  ·refine UK D hdst hk (fuel+1) k L (ps:=⟨sY (jC es) T2,O2⟩) (S:=S) (β:=β) (yX _) hkl hsz (λj hj=>⟨λhl=>?_,λhj'=>hfull j hj'⟩) ?_ ?_ hK;{rcases kO j k with h'|h';{exact h'};grind}
   ·have cnt:∀ n,k<=n->n<=ops.length->n<=k+unl L n:=by
     intro n;induction n with
     |zero=>omega| succ n ihn =>
      intro hkn hn;simp only[unl];by_cases hk0:k=n+1;{omega}
      ·(have:=ihn oM oM;have hnl:=hge n oM oM;have:L.getD n true≠true:=by rw[v8 oM true false];exact hnl);grind
    grind
   {show Sim w0 S0 K0 N (zD (sY (jC es) T2)) O2 a w S β;rw[<-hendT hfull hat];exact h.perm (λx=>by rw[hO2 x,hin x,eZ (hall1 hfull).2 x]) hnd2}
  ·have hun0:∃ j,j<k/\¬Lst L j/\∀ i,i<j->Lst L i:=by
    have:∀ n,n<=k->(∀ i,i<n->Lst L i)\/∃ j,j<k/\¬Lst L j/\∀ i,i<j->Lst L i:=by
     intro n;induction n with
     |zero=>grind| succ n ihn =>
      intro hn;rcases ihn oM with h1|h1;{by_cases hx:Lst L n;{refine .inl λi hi=>?_;by_cases e:i=n;{grind};grind};{exact .inr ⟨n,by omega,hx,h1⟩}};{exact .inr h1}
    rcases this k (yX _) with h1|h1;{grind};omega
   obtain⟨j0,hj0,hnj0,hbelow⟩:=hun0;refine⟨λhr=>?_,λi hi=>?_⟩
   ·(exfalso;have hlt:j0<ops.length:=by omega);have hin:j0∈Region.ready .any ops.toArray L:=by
     refine mem_ready.2 ⟨?_,ops[j0],by simp[hlt],λe he hb=>?_⟩
     ·rw[v8 oM true false];cases hx:L.getD j0 false with
      |false=>rfl| true=>exact absurd hx hnj0
     {exact hbelow e.on (D.back j0 _ (uZ hlt) e (by grind) hb)}
    grind
   ·(obtain⟨h1,o,h2,h3⟩:=mem_ready.1 hi;have ho:ops[i]?=some o:=by simpa using h2);have hlt:i<ops.length:=(wI.1 ho).1
    have hE:p8 (Lst L) o:=λe he hb=>h3 e (by simpa using he) hb;have hik:i<k:=by rcases kO i k with h'|h';{exact h'};{exact absurd (wB hcl ho hE (D.rest i j0 hlt h' oM)) hnj0}
    (have hp:pvs[i]?=some pvs[i]:=uZ oM;have hdo:=pX (hdst o (z8 ho));have hsize:i<L.size:=by omega);have hnl:¬Lst L i:=λhl=>by rw[v8 oM true false] at h1;unfold Lst at hl;grind
    have hagree:∀ t,t∈qY ops o->uN ((ops.take k).take i) (pvs.take i) (zD T0) t=zD G t:=λt ht=>At.same D hpl (At.text D hlen i oM) hat λj oj hj hoj hd=>by rcases D.look i o t j oj hik hj ho hoj ht hd with⟨q1,q2⟩|⟨q1,q2⟩;{exact .inl ⟨q1,wB hcl ho hE q2⟩};{refine .inr ⟨by omega,λhl=>?_⟩;have:=wB hcl hoj (hcl j oj hoj hl) q2;grind}
    (have hLs:∀ j,Lst (L.setIfInBounds i true) j↔Lst L j\/j=i:=qL hsize;have hB:∀ e,(L.setIfInBounds i true).getD e false=(L.getD e false || nqb e i):=λe=>by have:=hLs e;unfold Lst at this;rw[rT,this,Vw,nqb_iff]);have hnext:∀ {a':Act} {w':World} {S':Nat->Nat->Prop} {β':Bm} {G':List (Nat×PV)} {objs3:List (Nat×Obj')},zD G'=upd (zD G) o.dst pvs[i]->Sim w0 S0 K0 N (zD (sY (PL (λe=>(L.setIfInBounds i true).getD e false) es) G')) objs3 a' w' S' β' ->
      (∀ y,y∈objs3↔Vy es O0 X (λe=>(L.setIfInBounds i true).getD e false) y)->wpAny Pg .any ops.toArray Q fuel (L.setIfInBounds i true) a' w':=by
     intro a' w' S' β' G' objs3 hT hsim g1;refine ih (L.setIfInBounds i true) (by simpa using hsz) (λj hj hkj hl=>?_) (λj oj hoj hl=>?_) ?_ hsim g1 (by rw[hT];exact hat.step D hik ho hp λj=>qL hsize j);{rcases (qL hsize j).1 hl with hl|hl;{exact hge j hj hkj hl};{omega}};{intro e he hb;rw[qL hsize];rcases (qL hsize j).1 hl with hl|hl;{exact .inl (hcl j oj hoj hl e he hb)};{subst hl;rw[ho] at hoj;cases hoj;exact .inl (hE e he hb)}};{have:=YX h1 hlt;omega}
    have hG':zD (put ⟨G,[]⟩ o.dst pvs[i]).tmps=upd (zD G) o.dst pvs[i]:=xL _ _ _;have hlist:∀ e m,(e,m)∈es->L.getD e false=true->∃ oe,ops[e]?=some oe/\oe.dst=some m/\∀ i' n',y7 es i'=some n'->¬Lst L i'->n'≠m->scr n' (zD G m)=zD G m:=λe m he hle=>by
     obtain⟨q1,q2,q3⟩:=hes e m he;have hoe:ops[e]?=some ops[e]:=uZ oM;have hpe:pvs[e]?=some pvs[e]:=uZ oM;cases hst e ops[e] pvs[e] (by rw[u5 q1];exact hoe) hpe with
     |pure he' _ _=>rw[he'] at q3;cases q3
     |app he' hd hg h0' hpv _ _ _ _ _ =>
      rw[he'] at q3;cases q3;refine⟨_,hoe,hd,λi' n' h1 h2 h3=>?_⟩;rw[hat.hit e _ _ _ q1 hle hoe hpe hd];refine hpv i' n' (jN h1) ?_ h3;cases hx:((anc ops).getD e 0).testBit i' with
      |false=>rfl| true=>exact absurd (wB hcl hoe (hcl e _ hoe hle) hx) h2
    have hPn:∀ n,y7 es i=some n->yJ n (PL (λe=>L.getD e false) es)=false:=λn hn=>by
     cases hx:yJ n (PL (λe=>L.getD e false) es) with
     |false=>rfl| true =>
      obtain⟨e,q1,q2⟩:=fQ.1 (vC hx);have:=hinj (hes e n q1).2.2 hn;subst this;exact absurd q2 hnl
    have hstep:=hst i o pvs[i] (by rw[u5 hik];exact ho) hp;generalize hPP:PL (λe=>L.getD e false) es=P at *;cases hstep with
    | @app n x x0 he hd hg hget hpv hx0 hx hfix hgo hO =>
     (have hXx:X n=x:=hX i n x x0 hik he hget hO;have hin0:(n,x0)∈O0:=h0 i n x0 hik he hget;have hnP:=hPn n he;have hino:(n,x0)∈objs':=by rw[hin];refine⟨x0,hin0,?_⟩;show x0=scO (PL _ es) (match yJ n (PL _ es) with|true=>X n|false=>x0);rw[hPP,hnP];exact (hx0 P).symm);have hgetr:yK objs' n=some x0:=uK h.obj.nd hino;have hfixr:∀ t,t∈qY ops o->zD (sY P G) t=uN ((ops.take k).take i) (pvs.take i) (zD T0) t:=λt ht=>by
      rw[kK,hagree t ht];cases hm:yJ t P with
      |true=>rfl| false =>
       rw[<-hagree t ht];rcases hfix t ht with⟨a1,b1,c1,e⟩|e|e;{rw[e];simp only[scC,scA,hnP]};{exact e P};{obtain⟨j,q1,q2⟩:=Vm.1 e;have q3:=sW ((fQ (B:=λe=>L.getD e false)).2 ⟨j,q1,wB hcl ho hE q2⟩);rw[hPP,hm] at q3;cases q3}
     (have hmn:=(hes i n (jN he)).2.1;obtain⟨ps1,hwk,hs0⟩:=hgo (sY P G) objs' hfixr hgetr (Ge hmn _ _);obtain⟨S1,β1,h1s⟩:=hwk.sound (ps:=⟨sY P G,objs'⟩) h;have hPL:∀ m,yJ m (PL (λe=>(L.setIfInBounds i true).getD e false) es)=yJ m (n::P):=λm=>by rw[<-hPP];exact NT (jN he) (λm' hm'=>by have:=(hes i m' hm').2.2;rw[he] at this;cases this;rfl) hB m);refine rG ho (.inl ⟨by simp[Region.wanted,hg],c8 (ps:=ps1) h1s hs0 hdo λps' a' w' S' β' hK hsim=>?_⟩);obtain⟨hK1,hK2⟩:=hK;rw[hK2] at hsim;have hTT:zD ps'.tmps=zD (sY (PL (λe=>(L.setIfInBounds i true).getD e false) es) (put ⟨G,[]⟩ o.dst pvs[i]).tmps):=by
      (rw[hK1];funext t;rw[kK,hG',hd,hPL t];show (if t=n then pvs[i] else scr n (zD (sY P G) t))=match nqb n t || yJ t P with|true=>(if t=n then pvs[i] else zD G t)|false=>scC _ (if t=n then pvs[i] else zD G t));by_cases htn:t=n
      {subst htn;rw[nqb_self,if_pos rfl,if_pos rfl];rfl}
      ·have:nqb n t=false:=by
        cases hx:nqb n t with
        |false=>rfl| true=>exact absurd (y8 hx).symm htn
       rw[this,rU,if_neg htn,if_neg htn,kK];cases hm:yJ t P with
       |true =>
        rw[<-hPP] at hm;obtain⟨e,q1,q2⟩:=fQ.1 (vC hm);obtain⟨oe,_,_,e1⟩:=hlist e t q1 q2;exact e1 i n he hnl λe=>htn e.symm
       |false =>
        show scr n (scC P (zD G t))=scC _ (zD G t);rw[GP];exact (cX hPL _).symm
     (rw[hTT] at hsim;refine hnext hG' hsim λy=>?_;have hmemo:∀ z:Nat×Obj',z∈xB (scr n) (xP objs' n)↔∃ o1,(z.1,o1)∈objs'/\z.1≠n/\z.2=Me n o1:=λz=>by constructor;{intro hz;obtain⟨o1,q1,q2⟩:=wW (n:=z.1) (o:=z.2) _ hz;obtain⟨q3,q4⟩:=wX q1;exact⟨o1,q3,q4,q2⟩};{rintro⟨o1,q1,q2,q3⟩;have q4:=pO q1 q2;have:(z.1,Me n o1)∈xB (scr n) (xP objs' n):=pN (scr n) q4;rw[<-q3] at this;exact this});rw[w6,cM,hmemo];unfold Vy;have hsc:∀ o1:Obj',Me n (scO P o1)=scO (n::P) o1:=λo1=>YC _ _ _ (GP n P) o1;constructor
     ·rintro (⟨o1,q1,q2,q3⟩|q)
      ·rw[hin] at q1;obtain⟨o2,q4,q5⟩:=q1;simp only at q4 q5;refine⟨o2,q4,?_⟩;rw[hPP] at q5;rw[q3,q5,hsc,nX hPL,hPL];show _=scO (n::P) (match nqb n y.1 || yJ y.1 P with|true=>X y.1|false=>o2);rw[show nqb n y.1=false by
        cases hx:nqb n y.1 with
        |false=>rfl| true=>exact absurd (y8 hx).symm q2]
       rfl
      {subst q;refine⟨x0,hin0,?_⟩;rw[hPL,nX hPL];show x=scO (n::P) (match nqb n n || yJ n P with|true=>X n|false=>x0);rw[nqb_self,Bool.true_or];show x=scO (n::P) (X n);rw[hXx,hx]}
     ·rintro⟨o2,q4,q5⟩;rw[hPL,nX hPL] at q5;by_cases hy:y.1=n;{right;have q6:y.2=scO (n::P) (match nqb n y.1 || yJ y.1 P with|true=>X y.1|false=>o2):=q5;rw[hy,nqb_self,Bool.true_or] at q6;have q7:y.2=scO (n::P) (X n):=q6;rw[hXx,hx] at q7;cases y;simp only at hy q7;rw[hy,q7]}
      ·left;have hne:nqb n y.1=false:=by
        cases hx:nqb n y.1 with
        |false=>rfl| true=>exact absurd (y8 hx).symm hy
       have q6:y.2=scO (n::P) (match nqb n y.1 || yJ y.1 P with|true=>X y.1|false=>o2):=q5;rw[hne,rU] at q6;refine⟨scO P (match yJ y.1 P with|true=>X y.1|false=>o2),?_,hy,?_⟩;{rw[hin];exact⟨o2,q4,by rw[hPP]⟩};{rw[q6,hsc]}
    |pure he hs1 hO =>
     have hPL:∀ m,yJ m (PL (λe=>(L.setIfInBounds i true).getD e false) es)=yJ m P:=λm=>by
      rw[<-hPP];refine Tq (λe m' hm'=>?_) m;rw[hB];have:nqb e i=false:=by
       cases hx:nqb e i with
       |false=>rfl| true=>have:=y8 hx;subst this;exact absurd hm' (Ws he)
      rw[this,Bool.or_false]
     have hsub:∀ m,yJ m P=true->yJ m (dB (anc ops) i es)=true:=λm hm=>by
      rw[<-hPP] at hm;obtain⟨e,q1,q2⟩:=fQ.1 (vC hm);refine sW (Z8.2 ⟨e,q1,?_⟩);cases hx:((anc ops).getD e 0).testBit i with
      |false=>rfl| true =>
       obtain⟨oe,hoe,_⟩:=hlist e m q1 q2;exact absurd (wB hcl hoe (hcl e oe hoe q2) hx) hnl
     have hweak:∀ t v,Rep w S β v (zD (sY P G) t)->Rep w S β v (scC (dB (anc ops) i es) (zD G t)):=λt v hr=>by
      rw[kK] at hr;cases hm:yJ t P with
      |true=>rw[hm] at hr;exact nY hr| false =>
       rw[hm] at hr;have:=nY (P:=dB (anc ops) i es) hr;simp only at this;rw[KO hsub] at this;exact this
     have hobj:∀ n o',(n,o')∈xB (scC (dB (anc ops) i es)) (gV (jC es) O0)->∃ o,(n,o)∈objs'/\(ObjAt w S β n o->ObjAt w S β n o')/\(∀ i,gF o i->gF o' i)/\∀ b,Own β n o' b->Own β n o b:=λn o' hm=>by
      obtain⟨o1,q1,q2⟩:=(aO _).1 hm;simp only at q1 q2;obtain⟨q3,q4⟩:=Wl q1;have hnn:yJ n P=false:=by
       cases hx:yJ n P with
       |false=>rfl| true =>
        rw[<-hPP] at hx;obtain⟨e,r1,_⟩:=fQ.1 (vC hx);exact absurd (mP.2 ⟨e,r1⟩) q4
      refine⟨scO P o1,(hin _).2 ⟨o1,q3,by rw[hPP,hnn]⟩,λhat=>?_,λj hj=>?_,λb hb=>?_⟩;{rw[q2,<-KN hsub];exact CN hat};{rw[q2,<-KN hsub];exact GQ hj};{rw[q2] at hb;exact BL (uG hb)}
     (have hndl:((xB (scC (dB (anc ops) i es)) (gV (jC es) O0)).map Prod.fst).Nodup:=by rw[fH];exact (W0 _ _).nodup hnd0);have hw2:=h.weak (τ':=λt=>scC (dB (anc ops) i es) (zD G t)) hweak hndl hobj;have hs2:vS false (xB (scC (dB (anc ops) i es)) (gV (jC es) O0)) ops o (λt=>scC (dB (anc ops) i es) (zD G t)) pvs[i]:=mO (λt ht=>by rw[hagree t ht]) hs1;have hndst:∀ d,o.dst=some d->yJ d P=false:=λd hd=>by
      cases hx:yJ d P with
      |false=>rfl| true =>
       rw[<-hPP] at hx;obtain⟨e,q1,q2⟩:=fQ.1 (vC hx);obtain⟨oe,hoe,hde,_⟩:=hlist e d q1 q2;have hek:=(hes e d q1).1;have:=pW D.dst (by rw[u5 hek];exact hoe) (by rw[u5 hik];exact ho) hde hd;subst this;exact absurd q2 hnl
     have hTT:upd (zD (sY P G)) o.dst (scC P pvs[i])=zD (sY (PL (λe=>(L.setIfInBounds i true).getD e false) es) (put ⟨G,[]⟩ o.dst pvs[i]).tmps):=by
      funext t;rw[kK,hG',hPL t];cases hd:o.dst with
      |none =>
       simp only[upd];rw[kK];cases yJ t P with
       |true=>rfl| false=>exact (cX hPL _).symm
      |some d =>
       simp only[upd];by_cases htd:t=d;{subst htd;rw[if_pos rfl,if_pos rfl,hndst t hd];exact (cX hPL _).symm}
       ·rw[if_neg htd,if_neg htd,kK];cases yJ t P with
        |true=>rfl| false=>exact (cX hPL _).symm
     (have hfin:∀ y,y∈objs'↔Vy es O0 X (λe=>(L.setIfInBounds i true).getD e false) y:=λy=>by rw[hin y];exact eZ (λm=>by rw[hPP,hPL]) y);refine rG ho ?_;rcases dQ hw2.tmp hs2 with⟨hw,hA⟩|⟨hw,hBB⟩
     {refine .inl ⟨hw,iX hw2 hA λpv w' S' v hpv l hr=>?_⟩;refine hnext (S':=S') (β':=β) hG' ?_ hfin;rw[<-hTT];exact (h.go l).put o.dst hdo (nY (hr.le _ hpv))};{refine .inr ⟨hw,hnext (S':=S) (β':=β) hG' ?_ hfin⟩;rw[<-hTT];refine h.put o.dst hdo (nY ?_);rw[hBB];exact oT _ _ _}
theorem b7 {m n:Nat}{x:Obj'}(hne:m≠n):∀ (l:List (Nat×Obj')),yK (setO l m x) n=yK l n
 |[]=>by show (match nqb m n with|true=>some x|false=>none)=none;grind [y8]| (u,v)::r=>by
  unfold setO;cases hu:nqb u m with
  |true =>
   grind [nqb,yK]
  |false =>
   show (match nqb u n with|true=>some v|false=>yK (setO r m x) n)=(match nqb u n with|true=>some v|false=>yK r n);rw[b7 hne r]
section
variable {a:Act} {w:World} {S:Nat->Nat->Prop} {β:Bm}
theorem Qm (ops:List Oper)(l:List Bool):Region.ready .any ops.toArray l.toArray=By ops l:=by
 unfold Region.ready By;simp only[Hc];congr 1;funext i;have e1:l.toArray.getD i true=l.getD i true:=by simp_all
 rw[e1];congr 1;rw[List.getElem?_toArray];cases ops[i]? with
 |none=>rfl| some o =>
  simp only[Option.map_some,ZB];unfold F5;simp_all
theorem Ci {o:Oper}{a:Act}{w:World}{K:Act->World->Prop}{Q Q':Exit->Act->World->Prop}(h:∀ e a w,Q e a w->Q' e a w)(hh:o.wp Pg a w K Q):o.wp Pg a w K Q':=by
 unfold Oper.wp at *;generalize (execOp a.eval o).run Pg w=r at *;cases r with
 |ok n w' =>
  cases n with
  |enter f args =>
   rw[Oper.upon_enter] at *;refine hh.mono λe w'' q=>?_;cases e with
   |returned v=>exact q| panicked c=>grind| outgrown=>obtain⟨a',w1,q⟩:=q;exact⟨a',w1,h _ _ _ q⟩
  |_=>exact hh
 |halt x w' =>
  cases x with
  |panic v=>exact h _ _ _ hh| _=>exact hh
theorem Yo {ops:Array Oper}{Q Q':Exit->Act->World->Prop}(h:∀ e a w,Q e a w->Q' e a w):∀ (f:Nat) (l:Array Bool) (a:Act) (w:World),wpAny Pg .any ops Q f l a w->wpAny Pg .any ops Q' f l a w
 |0,l,a,w,hh=>⟨hh.1,h _ _ _ hh.2⟩| f+1,l,a,w,hh=>⟨λe=>h _ _ _ (hh.1 e),λi hi=>by
  have:=wpOp_mono (λa w=>Yo h f _ a w) (hh.2 i hi);unfold wpOp at *;split;{grind}
  ·rename_i o e;rw[e] at this;simp only at this;split;{rename_i hw;rw[if_pos hw] at this;rcases this with q|⟨q1,a',w1,q2⟩;{grind [Ci]};{exact .inr ⟨q1,a',w1,h _ _ _ q2⟩}};grind⟩
theorem A5 {o:Oper}{τ:Nat->PV}(hc:Gr o τ=true)(he:∀ x,Rep w S β (a.eval x) (ev τ x)){objs:List (Nat×Obj')}{K:PV->Prop}(hs:sop objs o.op (ev τ) K):∃ pv v,K pv/\Rep w S β v pv/\∀ w',(execOp a.eval o).run Pg w'=.ok (.value v) w':=by unfold Gr at hc;split at hc;{rename_i x hop;rw[hop] at hs;exact⟨_,_,hs,he x,λw'=>by simp[execOp,hop]⟩};{rename_i x hop;rw[hop] at hs;have hx:=he x;split at hc;{rename_i n off e;rw[e] at hx;obtain⟨b,hβ,hv⟩:=jP hx;simp only[sop] at hs;rw[e] at hs;exact⟨_,_,hs,.ptr hβ,λw'=>by simp[execOp,hop,hv]⟩};grind};{rename_i t x i hop;rw[hop] at hs;have hx:=he x;split at hc;{rename_i n fs z n' off ht e;split at hc;{rename_i f hf;rw[e] at hx;obtain⟨b,hβ,hv⟩:=jP hx;obtain⟨o1,s1,g1⟩:=f;obtain⟨fields,fld,h1,h2,h3,h4,h5,h6⟩:=WJ ht hf;simp only[sop] at hs;rw[ht,e] at hs;simp only[hf] at hs;refine⟨_,_,hs,.ptr hβ,λw'=>?_⟩;have:=bP (w:=w') ht hf b off;simp[execOp,hop,hv,this]};grind};{rename_i n fs z n' s' i' off ht e;split at hc;{rename_i f hf;rw[e] at hx;obtain⟨b,hβ,hv⟩:=jE hx;obtain⟨o1,s1,g1⟩:=f;obtain⟨fields,fld,h1,h2,h3,h4,h5,h6⟩:=WJ ht hf;simp only[sop] at hs;rw[ht,e] at hs;simp only[hf] at hs;refine⟨_,_,hs,.aptr hβ,λw'=>?_⟩;have:=bP (w:=w') ht hf b (i' ()*s'+off);rw[nP] at this;simp[execOp,hop,hv,this]};grind};grind};grind
theorem iT {ops:List Oper}{l:List Bool}{τ:Nat->PV}:∀ {r:List Nat} {j:Nat},V3 ops l τ r=some j->j∈r/\∃ o,ops[j]?=some o/\Gr o τ=true/\Wd o=true/\Region.free .any ops.toArray l.toArray j=true
 |[],j,h=>by cases h
 |i::r,j,h=>by
  unfold V3 at h;cases ho:ops[i]? with
  |none =>
   rw[ho] at h;have:=iT h;grind
  |some o =>
   rw[ho] at h;simp only at h;cases hc:Gr o τ&&Wd o&&Region.free .any ops.toArray l.toArray i with
   |false =>
    rw[hc] at h;have:=iT h;grind
   |true =>
    grind
theorem Hb {f:Nat->Prop}:∀ {r:List Nat},NN f r->∀ j,j∈r->f j
 |[],_,j,h=>by cases h
 |i::r,h,j,hj=>by rcases yR.1 hj with e|e;{rw[e];exact h.1};{exact Hb h.2 j e}
theorem o8 {o:Oper}(h:Wd o=true)(y:Nat->Option Value):o.guard=none:=by grind [Wd]
theorem D7 {o:Oper}{ps:PS}{K:PS->Prop}(hc:Gr o (zD ps.tmps)=true)(h:cG o ps K):sop ps.objs o.op (ev (zD ps.tmps)) (λv=>K (put ps o.dst v)):=by unfold Gr at hc;split at hc;{rename_i x hop;unfold cG at h;simp_all};{rename_i x hop;unfold cG at h;rw[hop] at h ⊢;exact h};{rename_i t x i hop;unfold cG at h;rw[hop] at h ⊢;exact h};grind
theorem Ke {ops:List Oper}{K:PS->Prop}(hsel:Region.noSelect ops.toArray=true)(hdst:∀ o,o∈ops->mG N o=true):∀ (f:Nat) (l:List Bool) (ps:PS) {a:Act} {w:World} {S:Nat->Nat->Prop} {β:Bm},Vl ops f l ps K->Sim w0 S0 K0 N (zD ps.tmps) ps.objs a w S β ->wpAny Pg .any ops.toArray (λe a w=>match e with|.normal=>∃ ps' S' β',K ps'/\Sim w0 S0 K0 N (zD ps'.tmps) ps'.objs a w S' β'|_=>False) f l.toArray a w
 |0,l,ps,a,w,S,β,hs,h=>by unfold Vl at hs;unfold wpAny;rw[Qm];grind| f+1,l,ps,a,w,S,β,hs,h=>by
  unfold Vl at hs;cases hr:By ops l with
  |nil =>
   rw[hr] at hs;exact wpAny_done (by rw[Qm,hr]) ⟨ps,S,β,hs,h⟩ _
  |cons i r =>
   (rw[hr] at hs;simp only at hs;have hd:∀ {o:Oper},o∈ops->∀ t,o.dst=some t->t<N:=λ{o} ho t ht=>by grind [mG]);cases ht:V3 ops l (zD ps.tmps) (i::r) with
   |some j =>
    rw[ht] at hs;simp only at hs;obtain⟨hj,o,ho,hc,hg,hf⟩:=iT ht;unfold GL at hs;rw[ho] at hs;simp only[hg] at hs;have hg':=o8 hg (λ_=>none);obtain⟨pv,v,h1,h2,h3⟩:=A5 (w:=w) (S:=S) (β:=β) (a:=a) hc (λx=>h.eval x) (D7 hc hs);refine wpAny_take (i:=j) (oi:=o) (v:=v) (by grind) hsel hf (by grind [Qm]) (λc a w q=>q.elim) (.inl ⟨by grind [Region.wanted],h3⟩) ?_;have:=Ke hsel hdst f (l.set j true) _ h1 (wU h o.dst (hd (z8 ho)) h2);grind
   |none =>
    rw[ht] at hs;simp only at hs;refine wpAny_all (rs:=i::r) (by rw[Qm,hr]) (by simp) λj hj=>?_;have hs':=Hb hs j hj;unfold GL at hs';unfold wpOp;rw[List.getElem?_toArray];cases ho:ops[j]? with
    |none=>grind| some o =>
     rw[ho] at hs';simp only at hs' ⊢;cases hg:Wd o with
     |false=>grind| true =>
      rw[hg] at hs';have hg':=o8 hg (λ_=>none);rw[if_pos (by grind [Region.wanted])];refine .inl (c8 h hs' (hd (z8 ho)) λps' a' w' S' β' hK hsim=>?_);have:=Ke hsel hdst f (l.set j true) ps' hK hsim;grind
end
theorem BX {ms:List (Nat×Obj')}{T:List (Nat×PV)}{P:Prop}(h:YA ms T P):Jc T ms=true/\P:=by
 cases ms with
 |nil=>exact⟨rfl,h⟩| cons m r=>exact h
theorem Gm {ops:List Oper}{ps:PS}{K:PS->Prop}(hs:DrawK ops ps K){Q:Exit->Act->World->Prop}(hdst:∀ o,o∈ops->mG N o=true)(hk:∀ ps' a' w' S' β',K ps'->Sim w0 S0 K0 N (zD ps'.tmps) ps'.objs a' w' S' β'->Q .normal a' w') {a:Act} {w:World} {S:Nat->Nat->Prop} {β:Bm} (h:Sim w0 S0 K0 N (zD ps.tmps) ps.objs a w S β):wpAny Pg .any ops.toArray Q ops.length (Array.replicate ops.length false) a w.drew:=by
 have hnone:∀ j,¬Lst (Array.replicate ops.length false) j:=by
  intro j hj;unfold Lst at hj;rcases kO j ops.length with h'|h'
  all_goals simp_all
 have hunl:∀ n,unl (Array.replicate ops.length false) n<=n:=by
  intro n;induction n with
  |zero=>exact yX _| succ n ih=>grind [unl]
 cases hs with
 |st k i0 n us ps' hw hd hm hs =>
  (obtain⟨S1,β1,h1⟩:=hw.sound h;have D:=nH hd;have hkl:k<=ops.length:=by rcases kO ops.length k with h'|h';{obtain⟨o,ho⟩:=D.full ops.length h';grind};omega);simp only[KD,yS,gH,pZ] at hm;obtain⟨⟨hm1,hm2⟩,hm3⟩:=hm;have hi0:=m6 hm1;cases hos:ops[i0]? with
  |none=>grind| some os =>
   (rw[hos] at hm2;simp only at hm2;obtain⟨hg,hnd,ts,ad,v,hop⟩:os.guard=none/\os.dst=none/\∃ ts ad v,os.op=.store ts ad v:=by grind);unfold KC at hs
   (obtain⟨pvs1,p1,g1,g2,g3,g4,g5⟩:=Cp _ 0 hs;rw[hos] at g2;simp only at g2;obtain⟨objs2,q0,q1,q2⟩:=CE (T:=p1.tmps) (objs:=p1.objs) hop hnd g2.2 g2.1;rw[g3] at q0;obtain⟨pvs2,p3,e1,e2,e3,e4,e5⟩:=KG _ q1;have hlt0:i0<ops.length:=by omega);have l1:(ops.take i0).length=i0:=by grind
   have hsplit:ops.take k=ops.take i0++os::(ops.take k).drop (i0+1):=by
    (have a1:(ops.take k)[i0]?=some os:=by grind);obtain⟨a2,a3⟩:=wI.1 a1
    have a4:=UT i0 (ops.take k);grind [List.drop_eq_getElem_cons]
   (have hpl:(pvs1++PV.any::pvs2).length=(ops.take k).length:=by grind);have hτ0:uN ((ops.take k).take i0) ((pvs1++PV.any::pvs2).take i0) (zD ps'.tmps)=zD p1.tmps:=by grind
   (have hp3:p3=⟨p3.tmps,objs2⟩:=by cases p3;grind);refine Nq (T0:=ps'.tmps) (objs1:=ps'.objs) (objs2:=objs2) (ps2:=p3) (pvs:=pvs1++PV.any::pvs2) (os:=os) D hdst hk hi0 hos hg hkl hpl (by grind) ?_ ?_ ?_
    ops.length _ (by simp) (λj _ _=>hnone j) (λi o _ hl=>absurd hl (hnone i)) (hunl _) (h1.go (fN h1.ld.bnd)) (λq=>absurd q (hnone i0)) (λ_=>rfl)
    ⟨λj o t pv _ hl=>absurd hl (hnone j),λt _=>rfl⟩
   {rw[hsplit,Xp oM];show _=uN _ pvs2 (upd (uN (ops.take i0) pvs1 (zD ps'.tmps)) os.dst .any);rw[hnd,<-g4,e4];rfl}
   ·(intro i o pv hik hne ho hp;have hb:=hm3 i hik;rw[ho] at hb;have hne':nqb i i0=false:=by grind [y8]);rw[hne',rU] at hb
    simp only[Vw,yS] at hb;rcases Nat.lt_or_gt_of_ne hne with hlt|hlt
    ·have hs1:vS false ps'.objs ops o (uN ((ops.take k).take i) ((pvs1++PV.any::pvs2).take i) (zD ps'.tmps)) pv:=by
      (have a1:(ops.take i0)[i]?=some o:=by grind);grind
     refine⟨.inl hs1,?_⟩;rcases hb with ((hb|hb)|hb)|hb;{grind [Yp]};{grind};{have:=m6 hb.1;omega}
     ·(refine .inl (Xy (q0 (by grind [yJ])) ?_);have a1:(ops.take i0)[i]?=some o:=by grind);grind
    ·have hs2:vS false objs2 ops o (uN ((ops.take k).take i) ((pvs1++PV.any::pvs2).take i) (zD ps'.tmps)) pv:=by
      (obtain⟨m,rfl⟩:∃ m,i=i0+1+m:=⟨i-(i0+1),by omega⟩;have a1:((ops.take k).drop (i0+1))[m]?=some o:=by rw[cK,u5 hik];exact ho);have a2:pvs2[m]?=some pv:=by
       (rw[cO oM] at hp;have:i0+1+m-pvs1.length=m+1:=by omega);rw[this,aA] at hp
       exact hp
      have:=e5 m o pv a1 a2;have b1:(ops.take k).take (i0+1+m)=ops.take i0++os::((ops.take k).drop (i0+1)).take m:=by
       (have hx:=congrArg (List.take (i0+1+m)) hsplit;rw[hx,List.take_append];have c1:(ops.take i0).take (i0+1+m)=ops.take i0:=yW oM;have c2:i0+1+m-(ops.take i0).length=m+1:=by omega);rw[c1,c2,FW]
      have b2:(pvs1++PV.any::pvs2).take (i0+1+m)=pvs1++PV.any::pvs2.take m:=by
       (rw[List.take_append];have c1:pvs1.take (i0+1+m)=pvs1:=yW oM;have c2:i0+1+m-pvs1.length=m+1:=by omega);rw[c1,c2,FW]
      rw[b1,b2,Xp oM];show vS false _ _ _ (uN _ _ (upd (uN (ops.take i0) pvs1 (zD ps'.tmps)) os.dst .any)) _;rw[hnd,<-g4];exact this
     refine⟨?_,.inl hs2⟩;rcases hb with ((hb|hb)|hb)|hb;{grind [Yp]};{have:=m6 hb.1;omega};{grind};{have:=m6 hb.1;omega}
   ·intro T hT;have:=q2 (λp=>zD p.tmps=upd (zD T) os.dst ((pvs1++PV.any::pvs2).getD i0 .any)/\p.objs=objs2) T (λx hx=>?_) (by rw[hnd];exact⟨rfl,rfl⟩);{grind}
    ·cases x with
     |tmp t =>
      show zD T t=zD p1.tmps t;rw[hT t ?_,hτ0];unfold qY;grind
     |_=>rfl
 |ef k es ps' hw hd he hm hs =>
  (obtain⟨S1,β1,h1⟩:=hw.sound h;have D:=nH hd;have hkl:k<=ops.length:=by rcases kO ops.length k with h'|h';{obtain⟨o,ho⟩:=D.full ops.length h';grind};omega);simp only[yS] at hm;simp only[Np,yS,gH,pZ] at he;obtain⟨he1,he2⟩:=he;have hinj:∀ {i j n},y7 es i=some n->y7 es j=some n->i=j:=λh1 h2=>Z3 he1 h1 h2;have hek:∀ i n,y7 es i=some n->i<k:=λi n h=>m6 (he2 _ (jN h)).1.1;have hmkE:∀ i o x,ops[i]?=some o->vK o=some x->y7 es i=none:=λi o x ho hmk=>by
   cases hl:y7 es i with
   |none=>rfl| some n =>
    have:=(he2 _ (jN hl)).1.2;grind
  have hanc:∀ i n j oj x,i<k->y7 es i=some n->j<k->ops[j]?=some oj->vK oj=some (n,x)->((anc ops).getD i 0).testBit j=true:=λi n j oj x _ hi hj hoj hmk=>by have:=(he2 _ (jN hi)).2 j hj;simp only[hoj,hmk,nqb_self,Bool.not_true,rU] at this;omega
  (obtain⟨pvs,Ob,T2,g1,g2,g34,g5,g6⟩:=AR _ 0 hs;obtain⟨g3,g4⟩:=BX g34;have g6':∀ i o pv,(ops.take k)[i]?=some o->pvs[i]?=some pv->EfStep ops es (yP (ops.take k)) (gV (jC es) ps'.objs) i o (uN ((ops.take k).take i) (pvs.take i) (zD ps'.tmps)) pv (Ob i) (Ob (i+1)):=λi o pv q1 q2=>by grind);have hkt:(ops.take k).length=k:=by grind
  (have hms:=λx=>Qz (k:=k) (ops:=ops) (x:=x);have hndm:((ps'.objs++yP (ops.take k)).map Prod.fst).Nodup:=by rw[jQ,iR];refine⟨h1.obj.nd,fW hm.1,?_⟩;intro x hx y hy e;subst e;obtain⟨⟨m,o⟩,q1,rfl⟩:=y9.1 hx;obtain⟨⟨m',o'⟩,q2,e2⟩:=y9.1 hy;have:=Wh hm.2 q2;simp only[yO,yS] at this;exact (y5 this.2 q1).1 e2.symm);have hop:∀ i,i<k->∃ o pv,ops[i]?=some o/\(ops.take k)[i]?=some o/\pvs[i]?=some pv:=λi hi=>by have q1:ops[i]?=some ops[i]:=uZ oM;exact⟨_,_,q1,by grind,uZ oM⟩
  have hnm:∀ i,i<=k->(Ob i).map Prod.fst=(ps'.objs++yP (ops.take i)).map Prod.fst:=by
   intro i;induction i with
   |zero=>intro _;rw[g2];simp[yP]| succ i ih =>
    (intro hi;obtain⟨o,pv,q1,q2,q3⟩:=hop i oM;have ih:=ih oM;have e:ops.take (i+1)=ops.take i++[o]:=by rw[rS,q1];rfl);rw[e,gY]
    cases g6' i o pv q2 q3 with
    |mk hmk _ hO=>rw[hO,jQ,ih];grind [yP]| eff hmk _ h0 _ _ _ hO=>rw[hO,uD (y9.2 ⟨_,xG h0,rfl⟩),ih];simp[yP,hmk]| pure hmk _ _ hO=>grind [yP]
  have hnd:∀ i,i<=k->((Ob i).map Prod.fst).Nodup:=λi hi=>by
   (rw[hnm i hi];have e:ops.take k=ops.take i++(ops.take k).drop i:=by have:=UT i (ops.take k);grind);rw[e,gY,<-YM,jQ] at hndm;grind
  obtain⟨X,hXd⟩:∃ X:Nat->Obj',∀ i n x,y7 es i=some n->yK (Ob (i+1)) n=some x->X i=x:=⟨λi=>((y7 es i).bind (yK (Ob (i+1)))).getD (.box []),λi n x q1 q2=>by grind⟩;have hX:∀ i n x,i<k->y7 es i=some n->(n,x)∈Ob (i+1)->X i=x:=λi n x hi q1 q2=>hXd i n x q1 (uK (hnd (i+1) oM) q2);have hXin:∀ i n x0 x,yK (Ob i) n=some x0->(n,x)∈setO (Ob i) n x:=λi n x0 x q=>aN (y9.2 ⟨_,xG q,rfl⟩);have hOb:∀ i,i<=k->∀ y,y∈Ob i↔EMem ops es k ps'.objs X (λj=>j<i) y:=by
   intro i;induction i with
   |zero =>
    intro _ y;rw[g2];unfold EMem;constructor;{grind};grind
   |succ i ih =>
    (intro hi y;obtain⟨o,pv,q1,q2,q3⟩:=hop i oM;have ih:=ih oM;have hL:∀ j,j<i+1↔j<i\/j=i:=λj=>by omega);cases g6' i o pv q2 q3 with
    | @mk d x hmk _ hO =>
     have hno:∀ j,j<k->y7 es j=some d->¬j<i:=λj hj hje hji=>by
      (have hjo:ops[j]?=some ops[j]:=uZ oM;have hL:∀ a oa,ops[a]?=some oa->a<j->p8 (λb=>b<j) oa:=λa oa hoa haj e he hb=>by have:=D.back a oa hoa e he hb;omega);have:i<j:=wB (L:=λb=>b<j) hL hjo (λe he hb=>D.back j _ hjo e he hb) (hanc j d i o x hj hje oM q1 hmk);omega
     rw[hO,w6,cM,EMem.mk q1 oM hmk (hmkE i o _ q1 hmk) hno hL y,ih y]
    | @eff n x x0 hmk he h0 _ _ _ hO =>
     have hxX:X i=x:=hX i n x oM he (by rw[hO];exact hXin _ _ _ _ h0);obtain⟨y1,y2⟩:=y;rw[hO,Zc (hnd i oM) (y9.2 ⟨_,xG h0,rfl⟩),EMem.eff hinj q1 oM hmk he hL,ih,hxX]
    |pure hmk he _ hO=>rw[hO,EMem.pure q1 hmk he hL y,ih y]
  (rw[hkt] at g4;have hEM0:∀ y,y∈ps'.objs↔EMem ops es k ps'.objs X (Lst (Array.replicate ops.length false)) y:=λy=>by unfold EMem;constructor;{intro q;exact .inl ⟨.inl q,λ⟨j,_,_,q⟩=>hnone j q⟩};{rintro (⟨q|⟨j,oj,_,q,_⟩,_⟩|⟨j,_,_,q,_⟩);{exact q};{grind};grind});refine Ns (T0:=ps'.tmps) (T2:=T2) (O0:=ps'.objs) (O2:=Ob k) (pvs:=pvs) (es:=es) (ms:=yP (ops.take k)) (lim:=gV (jC es) ps'.objs) (X:=X) (Ob:=Ob) D hdst hk hkl (by rw[g1]) g4 g5 (hOb k (yX _)) (hnd k (yX _)) hms ?_ ?_ hinj hmkE hanc (λi hi=>hOb i oM) g6' hX hXin
   ops.length _ (by simp) (λj _ _=>hnone j) (λi o _ hl=>absurd hl (hnone i)) (hunl _) (h1.go (fN h1.ld.bnd)) hEM0 ⟨λj o t pv _ hl=>absurd hl (hnone j),λt _=>rfl⟩
  {intro n x hx;have q1:=Wh hm.2 hx;simp only[yO,yS] at q1;exact⟨uQ q1.2,vY q1.1,λm o q=>y5 q1.2 q,λt ht=>Je ht (Un g3 hx)⟩};{intro n o q;obtain⟨q1,q2⟩:=UE _ q;refine⟨xG q2,λi hi=>?_⟩;rw[sW (XA (jN hi))] at q1;cases q1}
 |ap k es ps' hw hd he hs =>
  (obtain⟨S1,β1,h1⟩:=hw.sound h;have D:=nH hd;have hkl:k<=ops.length:=by rcases kO ops.length k with h'|h';{obtain⟨o,ho⟩:=D.full ops.length h';grind};omega);simp only[NK,yS,gH] at he;obtain⟨he1,he2⟩:=he;have hinj:∀ {i j n},y7 es i=some n->y7 es j=some n->i=j:=λh1 h2=>Z3 he1 h1 h2;have hes:∀ e m,(e,m)∈es->e<k/\m<1000000/\y7 es e=some m:=λe m hm=>by
   obtain⟨⟨q1,q2⟩,q3⟩:=he2 _ hm;refine⟨m6 q1,m6 q2,?_⟩;cases hl:y7 es e with
   |none=>grind| some n=>simp only[hl] at q3;rw[y8 q3]
  (obtain⟨pvs,Ob,T2,g1,g2,g3,g5,g6⟩:=Si _ 0 hs;have g6':∀ i o pv,(ops.take k)[i]?=some o->pvs[i]?=some pv->ApStep ops es (anc ops) (gV (jC es) ps'.objs) i o (uN ((ops.take k).take i) (pvs.take i) (zD ps'.tmps)) pv (Ob i) (Ob (i+1)):=λi o pv q1 q2=>by grind);have hkt:(ops.take k).length=k:=by grind
  (have hop:∀ i,i<k->∃ o pv,ops[i]?=some o/\(ops.take k)[i]?=some o/\pvs[i]?=some pv:=λi hi=>by have q1:ops[i]?=some ops[i]:=uZ oM;exact⟨_,_,q1,by grind,uZ oM⟩);have hnm:∀ i,i<=k->(Ob i).map Prod.fst=ps'.objs.map Prod.fst:=by
   intro i;induction i with
   |zero=>grind| succ i ih =>
    intro hi;obtain⟨o,pv,q1,q2,q3⟩:=hop i oM;have ih:=ih oM;cases g6' i o pv q2 q3 with
    |app _ _ _ h0 _ _ _ _ _ hO=>rw[hO,uD (y9.2 ⟨_,xG h0,rfl⟩),ih]| pure _ _ hO=>grind
  have hnd:∀ i,i<=k->((Ob i).map Prod.fst).Nodup:=λi hi=>by rw[hnm i hi];exact h1.obj.nd
  
  have hbef:∀ i,i<=k->∀ n,(∀ j,y7 es j=some n->i<=j)->yK (Ob i) n=yK ps'.objs n:=by
   intro i;induction i with
   |zero=>grind| succ i ih =>
    intro hi n hn;obtain⟨o,pv,q1,q2,q3⟩:=hop i oM;have ih:=ih oM n (λj hj=>by grind);cases g6' i o pv q2 q3 with
    | @app m _ _ he' _ _ _ _ _ _ _ _ hO =>
     grind [b7]
    |pure _ _ hO=>grind
  have haft:∀ d i,i+d<=k->∀ n,(∀ j,y7 es j=some n->j<i)->yK (Ob (i+d)) n=yK (Ob i) n:=by
   intro d;induction d with
   |zero=>grind| succ d ih =>
    intro i hi n hn;obtain⟨o,pv,q1,q2,q3⟩:=hop (i+d) oM;have ih:=ih i oM n hn;cases g6' (i+d) o pv q2 q3 with
    | @app m _ _ he' _ _ _ _ _ _ _ _ hO =>
     rw[show i+(d+1)=i+d+1 by omega,hO,b7 (λe=>?_),ih];grind
    |pure _ _ hO=>grind
  have hX:∀ i n x x0,i<k->y7 es i=some n->yK (Ob i) n=some x0->Ob (i+1)=setO (Ob i) n x->(yK (Ob k) n).getD (.box [])=x:=λi n x x0 hi he' h0 hO=>by
   (have e1:yK (Ob (i+1)) n=some x:=by refine uK (hnd _ oM) ?_;rw[hO];exact aN (y9.2 ⟨_,xG h0,rfl⟩));have e2:=haft (k-(i+1)) (i+1) oM n (λj hj=>by grind);rw[show i+1+(k-(i+1))=k by omega,e1] at e2;grind
  have hfinO:∀ y,y∈xB (scC (jC es)) (Ob k)↔Vy es ps'.objs (λn=>(yK (Ob k) n).getD (.box [])) (λj=>decide (j<k)) y:=λy=>by
   (have hPS:∀ m,yJ m (PL (λj=>decide (j<k)) es)=yJ m (jC es):=λm=>by rw[rT,fT,fT,fQ,mP];grind);rw[aO];unfold Vy;rw[hPS,Hz hPS];have hname:∀ n,(∃ o,(n,o)∈Ob k)↔∃ o,(n,o)∈ps'.objs:=λn=>by
    (have e:∀ l:List (Nat×Obj'),(∃ o,(n,o)∈l)↔n∈l.map Prod.fst:=λl=>by grind);grind
   cases hy:yJ y.1 (jC es) with
   |true =>
    constructor;{rintro⟨o,q1,q2⟩;obtain⟨o',q3⟩:=(hname _).1 ⟨o,q1⟩;refine⟨o',q3,?_⟩;show y.2=scO (jC es) ((yK (Ob k) y.1).getD (.box []));rw[uK (hnd k (yX _)) q1];exact q2};{rintro⟨o,q1,q2⟩;obtain⟨o',q3⟩:=(hname _).2 ⟨o,q1⟩;refine⟨o',q3,?_⟩;have q2':y.2=scO (jC es) ((yK (Ob k) y.1).getD (.box [])):=q2;rw[uK (hnd k (yX _)) q3] at q2';exact q2'}
   |false =>
    (have hnn:∀ j,y7 es j=some y.1->k<=j:=λj hj=>by grind [sW,mP,jN]);have hg:=hbef k (yX _) y.1 hnn
    constructor;{rintro⟨o,q1,q2⟩;rw[uK (hnd k (yX _)) q1] at hg;grind [xG]};grind [uK,xG]
  have hP0:PL (λi=>(Array.replicate ops.length false).getD i false) es=[]:=by
   (have:∀ m,m∉PL (λi=>(Array.replicate ops.length false).getD i false) es:=λm hm=>by obtain⟨e,_,q⟩:=fQ.1 hm;exact hnone e q);exact List.eq_nil_iff_forall_not_mem.2 this
  rw[hkt] at g3;refine Nr (T0:=ps'.tmps) (T2:=T2) (O0:=ps'.objs) (O2:=xB (scC (jC es)) (Ob k)) (pvs:=pvs) (es:=es) (X:=λn=>(yK (Ob k) n).getD (.box [])) (Ob:=Ob) D hdst hk hkl (by rw[g1]) g3 g5 hfinO (by rw[fH];grind) hes hinj g6'
   (λi n x0 hi he' h0=>by rw[hbef i oM n (λj hj=>by grind)] at h0;exact xG h0) hX h1.obj.nd
   ops.length (Array.replicate ops.length false) (G:=ps'.tmps) (objs':=xB (scC []) ps'.objs) (S:=S1) (β:=β1) (by simp) (λj _ _=>hnone j) (λi o _ hl=>absurd hl (hnone i)) (hunl _) ?_ ?_ ⟨λj o t pv _ hl=>absurd hl (hnone j),λt _=>rfl⟩
  {refine ((h1.go (fN h1.ld.bnd))).weak (λt v hr=>?_) (by grind [fH]) λn o' hm=>?_;{rw[hP0,kK];exact nY hr};{obtain⟨o1,q1,q2⟩:=(aO _).1 hm;simp only at q1 q2;exact⟨o1,q1,λh=>by rw[q2];exact CN h,λi h=>by rw[q2];exact GQ h,λb hb=>by rw[q2] at hb;exact uG hb⟩}};{intro y;rw[aO];unfold Vy;rw[hP0];rfl}
 |br σ inv good ps' hw hsel hs hks =>
  obtain⟨S1,β1,h1⟩:=hw.sound h;have:=Ke hsel hdst ops.length _ ps' hs (h1.go (fN h1.ld.bnd));rw[List.toArray_replicate] at this;refine Yo (λe a w q=>?_) _ _ _ _ this;cases e with
  |normal=>obtain⟨ps2,S2,β2,⟨s,q0,q1⟩,q2⟩:=q;obtain⟨S3,β3,q3⟩:=q1.sound q2;grind
  |_=>exact q.elim
end
end Go.Proofs.YtboocdbmnfjomaaGreat
