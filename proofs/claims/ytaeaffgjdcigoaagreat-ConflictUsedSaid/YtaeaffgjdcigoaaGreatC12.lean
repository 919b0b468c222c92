/- A part of the proof: PmP. -/
import Derived.Test.YtaeaffgjdcigoaaGreatC11
set_option linter.all false
namespace Go.Proofs.YtaeaffgjdcigoaaGreat
open Go
def sJ (L:Nat->Prop) (o:Oper):Prop:=∀ e,e∈o.after.toList->Region.binds .any e=true->L e.on
theorem zL7 {acc:List Nat}{o:Oper}{j:Nat}(h:(iU acc o).testBit j=true):∃ e,e∈o.after.toList/\Region.binds .any e=true/\(e.on=j\/(acc.getD e.on 0).testBit j=true):=by
 unfold iU at h;have gen:∀ (l:List Edge) (s:Nat),(l.foldl (fun s e=>if Region.binds .any e then s ||| (2^e.on ||| acc.getD e.on 0) else s) s).testBit j=true->s.testBit j=true\/∃ e,e∈l/\Region.binds .any e=true/\(e.on=j\/(acc.getD e.on 0).testBit j=true):=by
  intro l;induction l with
  |nil=>grind| cons e l ih =>
   intro s h;simp only[alT8] at h;rcases ih _ h with h1|⟨e',h1,h2⟩
   ·by_cases hb:Region.binds .any e=true
    all_goals grind
   grind
 grind
theorem zTP {L:Nat->Prop}{ops:List Oper}(hL:∀ i o,ops[i]?=some o->L i->sJ L o):∀ (r done:List Oper) (acc:List Nat),ops=done++r->acc.length=done.length ->(∀ i o j,i<acc.length->ops[i]?=some o->sJ L o->(acc.getD i 0).testBit j=true->L j) ->∀ i o j,ops[i]?=some o->sJ L o->((zUB r acc).getD i 0).testBit j=true->L j
 |[],done,acc,he,hl,h,i,o,j,hi,hE,hb=>by refine h i o j ?_ hi hE hb;grind| x::r,done,acc,he,hl,h,i,o,j,hi,hE,hb=>by
  refine zTP hL r (done++[x]) (acc++[iU acc x]) (by simp[he]) (by simp[hl]) ?_ i o j hi hE hb;intro i o j hlt hi hE hb;by_cases h1:i<acc.length
  ·(have:(acc++[iU acc x]).getD i 0=acc.getD i 0:=by grind);grind
  ·(have h2:i=acc.length:=by grind);subst h2
   (have:(acc++[iU acc x]).getD acc.length 0=iU acc x:=by simp);rw[this] at hb
   (have hx:ops[acc.length]?=some x:=by grind);rw[hx] at hi
   (cases hi;obtain⟨e,h3,h4,h5⟩:=zL7 hb;have hLe:=hE e h3 h4;rcases h5 with h5|h5);{grind}
   ·by_cases h6:e.on<acc.length
    ·(have hlo:e.on<ops.length:=by grind);have ho:ops[e.on]?=some ops[e.on]:=qI hlo
     grind
    ·(have:acc.getD e.on 0=0:=by simp only[uJ];grind);grind
theorem xV {L:Nat->Prop}{ops:List Oper}(hL:∀ i o,ops[i]?=some o->L i->sJ L o){i j:Nat}{o:Oper}(hi:ops[i]?=some o)(hE:sJ L o)(hb:((anc ops).getD i 0).testBit j=true):L j :=
 zTP hL ops [] [] rfl rfl (fun i o j h=>by simp at h) i o j hi hE hb
def unl (L:Array Bool):Nat->Nat
 |0=>0| n+1=>unl L n+(if L.getD n true=true then 0 else 1)
theorem zCA {L:Array Bool}{i:Nat}:∀ {n:Nat},n<=i->unl (L.setIfInBounds i true) n=unl L n
 |0,_=>rfl| n+1,h=>by simp only[unl];rw[zCA oM,getD_set_ne true oM]
theorem eH {L:Array Bool}{i:Nat}(hi:L.getD i true=false):∀ {n:Nat},i<n->unl (L.setIfInBounds i true) n+1=unl L n
 |0,h=>by omega| n+1,h=>by
  simp only[unl];by_cases e:i=n
  ·(subst e;have hs:i<L.size:=by grind);rw[zCA (zZ _),hi]
   simp_all
  {have:=eH hi (n:=n) oM;rw[getD_set_ne true e];omega}
theorem tO {L:Array Bool}:∀ {n:Nat},unl L n=0->∀ i,i<n->L.getD i true=true
 |0,_,i,h=>by omega| n+1,h0,i,h=>by simp only[unl] at h0;by_cases e:i=n;{grind};{exact tO (n:=n) oM i oM}
theorem xQ {L:Array Bool}{i:Nat}(hi:i<L.size)(d e:Bool):L.getD i d=L.getD i e:=by simp[hi]
section
variable {w0:World} {S0:Nat->Nat->Prop} {K0:Nat->Prop} {N:Cx}
structure DrawOk (ops:List Oper) (k:Nat):Prop where
 dst:fT (ops.take k)=true
 look:∀ i o t j oj,i<k->j<k->ops[i]?=some o->ops[j]?=some oj->t∈jC ops o->oj.dst=some t->(j<i/\((anc ops).getD i 0).testBit j=true)\/(i<j/\((anc ops).getD j 0).testBit i=true)
 full:∀ i,i<k->∃ o,ops[i]?=some o
 back:∀ i o,ops[i]?=some o->∀ e,e∈o.after.toList->Region.binds .any e=true->e.on<i
 rest:∀ i j,i<ops.length->k<=i->j<i->((anc ops).getD i 0).testBit j=true
theorem cX {ops:List Oper}{k:Nat}(h:fW ops k=true):DrawOk ops k:=by simp only[fW,yT,tG,zC1] at h;obtain⟨⟨⟨h1,h2⟩,h3⟩,h4⟩:=h;refine⟨h1,?_,?_,?_,?_⟩;{intro i o t j oj hi hj ho hoj ht hd;have:=h2 i hi;simp only[ho,tG,zC1] at this;have:=this t ht j hj;simp only[hoj,hd,BEq.rfl,Bool.not_true,sI,alT1,yT,decide_eq_true_eq] at this;omega};{grind};{grind};grind
structure At (ops:List Oper) (k:Nat) (pvs:List PV) (τ0:Nat->PV) (L:Nat->Prop) (τ:Nat->PV):Prop where
 hit:∀ j o t pv,j<k->L j->ops[j]?=some o->pvs[j]?=some pv->o.dst=some t->τ t=pv
 miss:∀ t,(∀ j o,j<k->L j->ops[j]?=some o->o.dst≠some t)->τ t=τ0 t
theorem At.step {ops:List Oper}{k:Nat}{pvs:List PV}{τ0:Nat->PV}{L L':Nat->Prop}{τ:Nat->PV}(D:DrawOk ops k)(h:At ops k pvs τ0 L τ){i:Nat}{o:Oper}{pv:PV}(hi:i<k)(ho:ops[i]?=some o)(hp:pvs[i]?=some pv) (hL':∀ j,L' j↔L j\/j=i):At ops k pvs τ0 L' (upd τ o.dst pv):=by
 have hne:∀ j oj t,j<k->ops[j]?=some oj->oj.dst=some t->o.dst=some t->j=i:=fun j oj t hj hoj hd hd' =>
  aH D.dst (by grind) (by grind) hd hd'
 refine⟨fun j oj t pv' hj hLj hoj hpj hd=>?_,fun t ht=>?_⟩
 ·by_cases hji:j=i;{subst hji;rw[ho] at hoj;cases hoj;rw[hp] at hpj;cases hpj;simp[upd,hd]}
  ·have hLj':=((hL' j).1 hLj).resolve_right hji;rw[<-h.hit j oj t pv' hj hLj' hoj hpj hd];cases hd':o.dst with
   |none=>rfl| some d =>
    grind [upd]
 ·have h1:τ t=τ0 t:=h.miss t fun j oj hj hLj hoj=>ht j oj hj ((hL' j).2 (.inl hLj)) hoj;rw[<-h1];cases hd':o.dst with
  |none=>rfl| some d =>
   have:t≠d:=fun e=>ht i o hi ((hL' i).2 (.inr rfl)) ho (by grind);grind [upd]
theorem At.text {ops:List Oper}{k:Nat}{pvs:List PV}{τ0:Nat->PV}(D:DrawOk ops k)(hl:pvs.length=(ops.take k).length)(i:Nat)(hi:i<=k):At ops k pvs τ0 (fun j=>j<i) (v6 ((ops.take k).take i) (pvs.take i) τ0):=by
 have htt:(ops.take k).take i=ops.take i:=by grind
 have hdo:fT (ops.take i)=true:=by rw[<-htt];exact zBB i D.dst
 refine⟨fun j o t pv hj hLj ho hp hd=>?_,fun t ht=>?_⟩;{rw[htt];exact zJM hdo (by rw[jY hLj];exact ho) (by grind) hd};grind [zFR]
theorem At.same {ops:List Oper}{k:Nat}{pvs:List PV}{τ0:Nat->PV}{L L':Nat->Prop}{τ τ':Nat->PV}(D:DrawOk ops k)(hlen:k<=pvs.length)(h:At ops k pvs τ0 L τ)(h':At ops k pvs τ0 L' τ'){t:Nat}(ht:∀ j o,j<k->ops[j]?=some o->o.dst=some t->(L j/\L' j)\/(¬L j/\¬L' j)):τ t=τ' t:=by
 by_cases hx:∃ j o,j<k/\ops[j]?=some o/\o.dst=some t
 ·obtain⟨j,o,hj,ho,hd⟩:=hx;rcases ht j o hj ho hd with⟨h1,h2⟩|⟨h1,h2⟩;{have hp:pvs[j]?=some pvs[j]:=qI oM;rw[h.hit j o t _ hj h1 ho hp hd,h'.hit j o t _ hj h2 ho hp hd]}
  ·have key:∀ j' o',j'<k->ops[j']?=some o'->o'.dst=some t->j'=j:=fun j' o' hj' ho' hd' =>
    aH D.dst (by grind) (by grind) hd' hd
   rw[h.miss t fun j' o' hj' hL ho' hd'=>h1 (key j' o' hj' ho' hd' ▸ hL),h'.miss t fun j' o' hj' hL ho' hd'=>h2 (key j' o' hj' ho' hd' ▸ hL)]
 {rw[h.miss t fun j o hj _ ho hd=>hx ⟨j,o,hj,ho,hd⟩,h'.miss t fun j o hj _ ho hd=>hx ⟨j,o,hj,ho,hd⟩]}
section
variable {a:Act} {w:World} {S:Nat->Nat->Prop} {β:Bm}
theorem Sim.newObjG {τ:Nat->PV}{objs:List (Nat×Obj')}{w':World}(h:Sim w0 S0 K0 N τ objs a w S β){n b:Nat}{o:Obj'}(hn:n<1000000)(hT:∀ t,xS n (τ t)=true)(hO:∀ {m x},(m,x)∈objs->m≠n/\fZ n x)(l:Leads w S uX w' S)(hb:w.heap.size<=b)(hb':b<w'.heap.size) (hat:ObjAt w' S (kK β n (some b)) n o) (hr:∀ i,¬vJ o i:=by intro _ hi;exact hi):Sim w0 S0 K0 N τ (objs++[(n,o)]) a w' S (kK β n (some b)):=by
 have hmem:∀ {m x},(m,x)∈objs++[(n,o)]->((m,x)∈objs/\m≠n)\/(m=n/\x=o):=by grind
 have hg:=h.go l;refine⟨h.dfr,h.sz,hg.ld,fun t=>(hg.tmp t).upd (hT t),⟨?_,?_,?_,?_⟩,?_,?_⟩;{rw[gE,lW];refine⟨h.obj.nd,by simp,?_⟩;grind};{intro m x hm;rcases hmem hm with⟨h1,h2⟩|⟨rfl,rfl⟩;{exact (hg.obj.at_ m x h1).upd h2 (hO h1).2};omega};{intro m x c hm hβ;rcases hmem hm with⟨h1,h2⟩|⟨rfl,rfl⟩;{exact hg.obj.un m x c h1 (vA h2 hβ)};{have hβ:=y7 hr hβ;rw[yV] at hβ;cases hβ;exact⟨fun i hS=>by have:=h.ld.bnd b i hS;omega,hb'⟩}};{intro m x m' x' c hm hm' hβ hβ';rcases hmem hm with⟨h1,h2⟩|⟨rfl,rfl⟩;{rcases hmem hm' with⟨h3,h4⟩|⟨rfl,rfl⟩;{exact hg.obj.inj _ _ _ _ c h1 h3 (vA h2 hβ) (vA h4 hβ')};{have hβ':=y7 hr hβ';rw[yV] at hβ';cases hβ';have:=(h.obj.un m x b h1 (vA h2 hβ)).2;omega}};{rcases hmem hm' with⟨h3,h4⟩|⟨rfl,rfl⟩;{have hβ:=y7 hr hβ;rw[yV] at hβ;cases hβ;have:=(h.obj.un m' x' b h3 (vA h4 hβ')).2;omega};{rfl}}};{intro m x c hm hβ;rcases hmem hm with⟨h1,h2⟩|⟨rfl,rfl⟩;{exact h.own m x c h1 (vA h2 hβ)};{have hβ:=y7 hr hβ;rw[yV] at hβ;cases hβ;have:=h.ld.size;omega}};{intro m x hm hb2;rcases hmem hm with⟨h1,h2⟩|⟨rfl,rfl⟩;{rw[wK h2];exact h.keep m x h1 hb2};{omega}}
theorem zAD {d:Nat}{t:TypeId}(hno:(ty t).isNo=false):wD d (ty t).zero=true:=by
 cases hty:ty t with
 |no=>grind [Ty.isNo]| sc z=>obtain⟨_,_,zv',_,_,_,_,_,_,h7,_⟩:=zG2 hty;rw[h7];simp only[Ty.zero,wD,yR,zMK];unfold wN;split <;> rfl
 |st n fs z =>
  obtain⟨_,_,zs,_,_,_,_,_,_,h7,_⟩:=zG1 hty;rw[h7];simp only[Ty.zero];generalize zs.toList=l;induction l with
  |nil=>rfl| cons x l ih=>simp only[kA,wD,yR,yT];exact⟨by unfold wN;split <;> rfl,ih⟩
 |arr len n ag z =>
  obtain⟨_,_,zs,_,_,_,_,_,_,_,_,_,_,h7⟩:=lZ hty;rw[h7];simp only[Ty.zero];generalize zs.toList=l;induction l with
  |nil=>rfl| cons x l ih=>simp only[kA,wD,yR,yT];exact⟨by unfold wN;split <;> rfl,ih⟩
 |sli n b z=>rfl
theorem zWZ {o:Oper}{d:Nat}{x:Obj'}{τ:Nat->PV}{objs:List (Nat×Obj')}{Km:Act->World->Prop}{Q:Exit->Act->World->Prop}(hm:wW o=some (d,x))(hd:pB N o=true)(h:Sim w0 S0 K0 N τ objs a w S β) (hn:d<1000000) (hT:∀ t,xS d (τ t)=true) (hO:∀ {m y},(m,y)∈objs->m≠d/\fZ d y) (hk:∀ a' w' β',Sim w0 S0 K0 N (upd τ o.dst (.ptr d 0)) (objs++[(d,x)]) a' w' S β'->Km a' w'):o.wp Pg a w Km Q:=by
 obtain⟨hg,hod,t,hop,hno,rfl⟩:=jB hm;obtain⟨i,zv,h1,h2,h3⟩:=zNN (w:=w) (S:=S) (β:=β) hno;have hz:wD d (ty t).zero=true:=zAD hno;have l:=vQ (w:=w) h.ld.bnd (.cells zv.cells t);have hnw:=h.newObjG (w':=w.alloc (.cells zv.cells t)) (b:=w.heap.size) (o:=.box (ty t).zero) hn hT hO l (zZ _) (by simp) ⟨w.heap.size,zv.cells,t,yV,heap_alloc_new w _,h3.1,fun j hj =>
  ((h3.2 j hj).evo (l.evo h.ld.bnd) (l.subs h.ld.bnd)).upd (xR rfl hz j)⟩
 refine qN (v:=.pointer (some ⟨w.heap.size,0,none⟩)) (w':=w.alloc (.cells zv.cells t)) ?_ ?_;{simp[execOp,hop,Instr.alloc,rG h1 h2,newVar,newRow]};{exact hk _ _ _ (hnw.put o.dst (sE hd) (.ptr yV))}
theorem Sim.perm {τ:Nat->PV}{objs objs':List (Nat×Obj')}(h:Sim w0 S0 K0 N τ objs a w S β)(hm:∀ x,x∈objs'↔x∈objs)(hnd:(objs'.map Prod.fst).Nodup):Sim w0 S0 K0 N τ objs' a w S β :=
 ⟨h.dfr,h.sz,h.ld,h.tmp,⟨hnd,fun n o hx=>h.obj.at_ n o ((hm _).1 hx),fun n o b hx=>h.obj.un n o b ((hm _).1 hx),fun n o m o' b hx hy=>h.obj.inj n o m o' b ((hm _).1 hx) ((hm _).1 hy)⟩,
  fun n o b hx=>h.own n o b ((hm _).1 hx),fun n o hx=>h.keep n o ((hm _).1 hx)⟩
theorem vW:∀ {l:List (Nat×Obj')} {n:Nat} {o:Obj'},(l.map Prod.fst).Nodup->(n,o)∈l->yG l n=some o
 |[],n,o,_,h=>by simp at h| (u,v)::r,n,o,hnd,h=>by simp only[kA,zC3] at hnd;simp only[yI] at h;unfold yG;rcases h with h|h;{simp_all};{have:u≠n:=fun e=>hnd.1 (by grind);rw[nbeq this];exact vW hnd.2 h}
end
theorem iC {o:Oper}{τ:Nat->PV}{objs:List (Nat×Obj')}{a:Act}{w:World}{S:Nat->Nat->Prop}{β:Bm}{K:PV->Prop}{Km:Act->World->Prop}{Q:Exit->Act->World->Prop}(h:Sim w0 S0 K0 N τ objs a w S β)(hs:j6 false objs o.op (ev τ) K) (hk:∀ pv w' S' v,K pv->Leads w S uX w' S'->Rep w' S' β v pv->Km (a.put o.dst v) w'):o.wp Pg a w Km Q:=by
 unfold j6 at hs;cases hi:lS o.op with
 |false=>grind [zAF]| true =>
  rw[hi] at hs;obtain⟨c',hc1,hc2⟩:=zJ8 hi;obtain⟨c,b,x,t,tx,n,bb,z,hop,h1,h2,h3,h4,h5,h6⟩:=zIB hs;grind [zG0]
theorem zA1 {nb:Bool}{o:Oper}{τ:Nat->PV}{objs:List (Nat×Obj')}{a:Act}{w:World}{S:Nat->Nat->Prop}{β:Bm}{K:PV->Prop}{Km:Act->World->Prop}{Q:Exit->Act->World->Prop}(h:Sim w0 S0 K0 N τ objs a w S β)(hs:j6 nb objs o.op (ev τ) K) (hk:∀ pv w' S' β' v,K pv->Sim w0 S0 K0 N τ objs a w' S' β'->Rep w' S' β' v pv->Km (a.put o.dst v) w'):o.wp Pg a w Km Q:=by
 have fin:j6 false objs o.op (ev τ) K->o.wp Pg a w Km Q:=fun hs=>iC h hs fun pv w' S' v hK l hr=>hk pv w' S' β v hK (h.go l) hr;cases nb with
 |false=>grind| true =>
  cases hi:lS o.op with
  |true=>grind [j6]| false =>
   (have hs':iB objs o.op (ev τ) K:=by grind [j6]);rcases nB hs' with⟨h1,h2⟩|⟨c,f,g,caps,h1,h2,h3,h4,h5⟩
   {grind [j6]};{rcases h5.h with⟨args',r,q1,q2,q3,q4⟩|⟨_,hn,cargs,kept,r,q1,q2,q3,q4,q5,q6,q7,q8,q9,q10⟩;{exact mS h1 h2 h h4 ⟨args',r,q1,q2,q3,q4⟩ fun pv w' S' v hK l hr=>hk pv w' S' β v hK (h.go l) hr};grind [zIR]}
theorem dW {ops:List Oper}{Q:Exit->Act->World->Prop}{i:Nat}{o:Oper}{a:Act}{w:World}{Km:Act->World->Prop}(ho:ops[i]?=some o) (h:(Region.wanted o (yielded ops.toArray a.tmps)=true/\o.wp Pg a w Km Q)\/(Region.wanted o (yielded ops.toArray a.tmps)=false/\Km (a.put o.dst undef) w)):wpOp Pg ops.toArray Q i Km a w:=by unfold wpOp;grind
def Lst (L:Array Bool) (j:Nat):Prop:=L.getD j false=true
theorem w8 {L:Array Bool}{i:Nat}(hi:i<L.size)(j:Nat):Lst (L.setIfInBounds i true) j↔Lst L j\/j=i:=by unfold Lst;by_cases e:j=i;{simp_all};{rw[getD_set_ne false (Ne.symm e)];simp[e]}
theorem zE3 {ops:List Oper}{k:Nat}(D:DrawOk ops k){Q:Exit->Act->World->Prop}{K:PS->Prop}(hdst:∀ o,o∈ops->pB N o=true)(hk:∀ ps' a' w' S' β',K ps'->Sim w0 S0 K0 N (zB ps'.tmps) ps'.objs a' w' S' β'->Q .normal a' w'):∀ (fuel m:Nat) (L:Array Bool) {ps:PS} {a:Act} {w:World} {S:Nat->Nat->Prop} {β:Bm},k<=m->m<=ops.length->L.size=ops.length->(∀ j,j<ops.length->(Lst L j↔j<m))->ops.length<=m+fuel ->Sim w0 S0 K0 N (zB ps.tmps) ps.objs a w S β->qP ops (ops.drop m) ps K->wpAny Pg .any ops.toArray Q fuel L a w:=by
 intro fuel;induction fuel with
 |zero =>
  (intro m L ps a w S β hkm hm hsz hL hf h hs;have hme:m=ops.length:=by omega);have hr:Region.ready .any ops.toArray L=[]:=by
   (rw[List.eq_nil_iff_forall_not_mem];intro i hi;obtain⟨h1,o,h2,_⟩:=mem_ready.1 hi;have hlt:i<ops.length:=by grind);have:=(hL i hlt).2 oM
   unfold Lst at this;grind
  refine⟨hr,?_⟩;rw[hme,w4] at hs;exact hk _ _ _ _ _ hs h
 |succ fuel ih =>
  (intro m L ps a w S β hkm hm hsz hL hf h hs;have closed:∀ i o,ops[i]?=some o->Lst L i->sJ (Lst L) o:=by intro i o ho hi e he hb;have hlt:=(wH.1 ho).1;have h1:=D.back i o ho e he hb;grind);refine⟨fun hr=>?_,fun i hi=>?_⟩
  ·by_cases hme:m=ops.length;{rw[hme,w4] at hs;exact hk _ _ _ _ _ hs h}
   ·(exfalso;have hlt:m<ops.length:=by omega);have hin:m∈Region.ready .any ops.toArray L:=by
     refine mem_ready.2 ⟨?_,ops[m],by grind,fun e he hb=>?_⟩
     ·rw[xQ oM true false];cases hx:L.getD m false with
      |false=>rfl| true=>have:=(hL m hlt).1 hx;omega
     {have h1:=D.back m _ (qI hlt) e (by grind) hb;exact (hL e.on oM).2 h1}
    grind
  ·(obtain⟨h1,o,h2,h3⟩:=mem_ready.1 hi;have ho:ops[i]?=some o:=by grind);have hlt:i<ops.length:=(wH.1 ho).1
   (have him:m<=i:=by rcases uQ i m with h'|h';{have:=(hL i hlt).2 h';unfold Lst at this;grind};omega);have hie:i=m:=by rcases uQ m i with h'|h';{have hb:=D.rest i m hlt oM h';have:=xV closed ho (fun e he hb=>h3 e (by grind) hb) hb;grind};{omega}
   (subst hie;have hdrop:ops.drop i=o::ops.drop (i+1):=by grind [List.drop_eq_getElem_cons]);rw[hdrop] at hs
   (simp only[qP] at hs;have hL2:∀ j,j<ops.length->(Lst (L.setIfInBounds i true) j↔j<i+1):=by grind [w8]);have hdo:=sE (hdst o (yA ho))
   refine dW ho ?_;rcases jQ h.tmp hs with⟨hw,hA⟩|⟨hw,hB⟩;{exact .inl ⟨hw,dM h hA hdo fun ps' a' w' S' β' hK hsim=>by obtain⟨ps'',hK',hsim'⟩:=zA5 hsim hK;grind⟩};{exact .inr ⟨hw,ih (i+1) _ oM oM (by grind) hL2 oM (wO h o.dst hdo (nG _ _ _)) hB⟩}
theorem zW9 {ops:List Oper}{k:Nat}(D:DrawOk ops k){Q:Exit->Act->World->Prop}{K:PS->Prop}(hdst:∀ o,o∈ops->pB N o=true)(hk:∀ ps' a' w' S' β',K ps'->Sim w0 S0 K0 N (zB ps'.tmps) ps'.objs a' w' S' β'->Q .normal a' w') {ps ps2:PS} {pvs:List PV} {ms:List (Nat×Obj')} (hkl:k<=ops.length) (hlen:pvs.length=(ops.take k).length) (hK:qP ops (ops.drop k) ⟨ps2.tmps,ps.objs++ms⟩ K) (hms:∀ x,x∈ms↔∃ i o,i<k/\ops[i]?=some o/\wW o=some x) (hndm:((ps.objs++ms).map Prod.fst).Nodup) (hfr:∀ n x,(n,x)∈ms->n<1000000/\(∀ t,xS n (zB ps.tmps t)=true)/\(∀ m o,(m,o)∈ps.objs->m≠n/\fZ n o)/\(∀ t,t≠n->xS n (zB ps2.tmps t)=true)) (ht2:zB ps2.tmps=v6 (ops.take k) pvs (zB ps.tmps)) (hst:∀ i o pv,(ops.take k)[i]?=some o->pvs[i]?=some pv->tQ true ps.objs ops o (v6 ((ops.take k).take i) (pvs.take i) (zB ps.tmps)) pv):∀ (fuel:Nat) (L:Array Bool) {a:Act} {w:World} {S:Nat->Nat->Prop} {β:Bm} {τ:Nat->PV} {objs':List (Nat×Obj')},L.size=ops.length->(∀ j,j<ops.length->k<=j->¬Lst L j)->(∀ i o,ops[i]?=some o->Lst L i->sJ (Lst L) o)->unl L ops.length<=fuel ->Sim w0 S0 K0 N τ objs' a w S β->(∀ x,x∈objs'↔x∈ps.objs\/∃ i o,i<k/\Lst L i/\ops[i]?=some o/\wW o=some x)->At ops k pvs (zB ps.tmps) (Lst L) τ->wpAny Pg .any ops.toArray Q fuel L a w:=by
 have hpl:k<=pvs.length:=by grind
 intro fuel;induction fuel with
 |zero =>
  intro L a w S β τ objs' hsz hge hcl hun h hin hat;have hall:=tO (Nat.le_zero.1 hun);have hkn:ops.length<=k:=by rcases uQ k ops.length with h'|h';{have h1:=hall k h';rw[xQ oM true false] at h1;exact absurd h1 (hge k h' (zZ _))};omega
  (have hk':k=ops.length:=by omega);refine zE3 D hdst hk 0 k L (ps:=⟨ps2.tmps,ps.objs++ms⟩) (S:=S) (β:=β) (zZ _) hkl hsz (fun j hj=>⟨fun _=>by omega,fun _=>?_⟩) oM ?_ hK
  {have h1:=hall j hj;rw[xQ oM true false] at h1;exact h1}
  ·have:τ=zB ps2.tmps:=by
    (funext t;rw[ht2];have htx:=At.text (τ0:=zB ps.tmps) D hlen k (zZ _);have e1:(ops.take k).take k=ops.take k:=by grind);have e2:pvs.take k=pvs:=yS (by grind)
    rw[e1,e2] at htx;exact hat.same D hpl htx fun j o hj ho hd=>.inl ⟨by have h1:=hall j oM;rw[xQ oM true false] at h1;exact h1,hj⟩
   show Sim w0 S0 K0 N (zB ps2.tmps) (ps.objs++ms) a w S β;rw[<-this];refine h.perm (fun x=>?_) hndm;rw[vX,hms x,hin x];refine or_congr Iff.rfl ⟨fun⟨i,o,q1,q2,q3⟩=>⟨i,o,q1,by have h1:=hall i oM;rw[xQ oM true false] at h1;exact h1,q2,q3⟩,fun⟨i,o,q1,_,q2,q3⟩=>⟨i,o,q1,q2,q3⟩⟩
 |succ fuel ih =>
  intro L a w S β τ objs' hsz hge hcl hun h hin hat;by_cases hfull:∀ j,j<k->Lst L j
  ·refine zE3 D hdst hk (fuel+1) k L (ps:=⟨ps2.tmps,ps.objs++ms⟩) (S:=S) (β:=β) (zZ _) hkl hsz (fun j hj=>⟨fun hl=>?_,fun hj'=>hfull j hj'⟩) ?_ ?_ hK;{rcases uQ j k with h'|h';{exact h'};{exact absurd hl (hge j hj h')}}
   ·have cnt:∀ n,k<=n->n<=ops.length->n<=k+unl L n:=by
     intro n;induction n with
     |zero=>omega| succ n ihn =>
      intro hkn hn;simp only[unl];by_cases hk0:k=n+1;{omega}
      ·(have:=ihn oM oM;have hnl:=hge n oM oM;have:L.getD n true≠true:=by rw[xQ oM true false];exact hnl);rw[if_neg this]
       omega
    have:=cnt ops.length hkl (zZ _);omega
   ·have:τ=zB ps2.tmps:=by
     (funext t;rw[ht2];have htx:=At.text (τ0:=zB ps.tmps) D hlen k (zZ _);have e1:(ops.take k).take k=ops.take k:=by rw[List.take_take,Nat.min_self]);have e2:pvs.take k=pvs:=yS (by rw[hlen];simp;omega)
     rw[e1,e2] at htx;exact hat.same D hpl htx fun j o hj ho hd=>.inl ⟨hfull j hj,hj⟩
    show Sim w0 S0 K0 N (zB ps2.tmps) (ps.objs++ms) a w S β;rw[<-this];refine h.perm (fun x=>?_) hndm;rw[vX,hms x,hin x];exact or_congr Iff.rfl ⟨fun⟨i,o,q1,q2,q3⟩=>⟨i,o,q1,hfull i q1,q2,q3⟩,fun⟨i,o,q1,_,q2,q3⟩=>⟨i,o,q1,q2,q3⟩⟩
  ·have hun0:∃ j,j<k/\¬Lst L j/\∀ i,i<j->Lst L i:=by
    have:∀ n,n<=k->(∀ i,i<n->Lst L i)\/∃ j,j<k/\¬Lst L j/\∀ i,i<j->Lst L i:=by
     intro n;induction n with
     |zero=>intro _;exact .inl fun i h=>by omega| succ n ihn =>
      intro hn;rcases ihn oM with h1|h1;{by_cases hx:Lst L n;{refine .inl fun i hi=>?_;by_cases e:i=n;{exact e ▸ hx};{exact h1 i oM}};{exact .inr ⟨n,by omega,hx,h1⟩}};{exact .inr h1}
    rcases this k (zZ _) with h1|h1;{exact absurd h1 hfull};omega
   obtain⟨j0,hj0,hnj0,hbelow⟩:=hun0;refine⟨fun hr=>?_,fun i hi=>?_⟩
   ·(exfalso;have hlt:j0<ops.length:=by omega);have hin:j0∈Region.ready .any ops.toArray L:=by
     refine mem_ready.2 ⟨?_,ops[j0],by simp[hlt],fun e he hb=>?_⟩
     ·rw[xQ oM true false];cases hx:L.getD j0 false with
      |false=>rfl| true=>exact absurd hx hnj0
     {exact hbelow e.on (D.back j0 _ (qI hlt) e (by simpa using he) hb)}
    rw[hr] at hin;cases hin
   ·(obtain⟨h1,o,h2,h3⟩:=mem_ready.1 hi;have ho:ops[i]?=some o:=by simpa using h2);have hlt:i<ops.length:=(wH.1 ho).1
    have hE:sJ (Lst L) o:=fun e he hb=>h3 e (by simpa using he) hb;have hik:i<k:=by rcases uQ i k with h'|h';{exact h'};{exact absurd (xV hcl ho hE (D.rest i j0 hlt h' oM)) hnj0}
    (have hp:pvs[i]?=some pvs[i]:=qI oM;have hs0:=hst i o pvs[i] (by rw[jY hik];exact ho) hp;have hdo:=sE (hdst o (yA ho));have hsize:i<L.size:=by omega);have hnl:¬Lst L i:=fun hl=>by rw[xQ oM true false] at h1;unfold Lst at hl;rw[h1] at hl;exact absurd hl (by decide)
    (have hnext0:∀ {a':Act} {w':World} {S':Nat->Nat->Prop} {β':Bm} {objs2:List (Nat×Obj')},Sim w0 S0 K0 N (upd τ o.dst pvs[i]) objs2 a' w' S' β'->(∀ x,x∈objs2↔x∈objs'\/wW o=some x)->wpAny Pg .any ops.toArray Q fuel (L.setIfInBounds i true) a' w':=by intro a' w' S' β' objs2 hsim hin2;refine ih (L.setIfInBounds i true) (by simpa using hsz) (fun j hj hkj hl=>?_) (fun j oj hoj hl=>?_) ?_ hsim (fun x=>?_) (hat.step D hik ho hp fun j=>w8 hsize j);{rcases (w8 hsize j).1 hl with hl|hl;{exact hge j hj hkj hl};{omega}};{intro e he hb;rw[w8 hsize];rcases (w8 hsize j).1 hl with hl|hl;{exact .inl (hcl j oj hoj hl e he hb)};{subst hl;rw[ho] at hoj;cases hoj;exact .inl (hE e he hb)}};{have:=eH h1 hlt;omega};{rw[hin2 x,hin x];constructor;{rintro ((q|⟨j,oj,q1,q2,q3,q4⟩)|q);{exact .inl q};{exact .inr ⟨j,oj,q1,(w8 hsize j).2 (.inl q2),q3,q4⟩};{exact .inr ⟨i,o,hik,(w8 hsize i).2 (.inr rfl),ho,q⟩}};{rintro (q|⟨j,oj,q1,q2,q3,q4⟩);{exact .inl (.inl q)};{rcases (w8 hsize j).1 q2 with q2|q2;{exact .inl (.inr ⟨j,oj,q1,q2,q3,q4⟩)};{subst q2;rw[ho] at q3;cases q3;exact .inr q4}}}});cases hmk:wW o with
    |some dx =>
     obtain⟨d,x⟩:=dx;obtain⟨hgn,hod,t0,hop0,hno0,hx0⟩:=jB hmk;unfold tQ at hs0;rw[hmk] at hs0;have hinms:(d,x)∈ms:=(hms _).2 ⟨i,o,hik,ho,hmk⟩;obtain⟨f1,f2,f3,f4⟩:=hfr d x hinms;have htx:At ops k pvs (zB ps.tmps) (fun j=>j<k) (zB ps2.tmps):=by
      (have htx:=At.text (τ0:=zB ps.tmps) D hlen k (zZ _);have e1:(ops.take k).take k=ops.take k:=by rw[List.take_take,Nat.min_self]);have e2:pvs.take k=pvs:=yS (by rw[hlen];simp;omega)
      rw[e1,e2,<-ht2] at htx;exact htx
     have uniq:∀ j oj,j<k->ops[j]?=some oj->oj.dst=some d->j=i:=fun j oj hj hoj hd' =>
      aH D.dst (by rw[jY hj];exact hoj) (by rw[jY hik];exact ho) hd' hod
     refine dW ho (.inl ⟨by simp[Region.wanted,hgn],zWZ hmk (hdst o (yA ho)) h f1 (fun t=>?_) (fun {m y} hmy=>?_) fun a' w' β' hsim=>?_⟩);{by_cases hw:∃ j oj,j<k/\Lst L j/\ops[j]?=some oj/\oj.dst=some t;{obtain⟨j,oj,q1,q2,q3,q4⟩:=hw;have hpj:pvs[j]?=some pvs[j]:=qI oM;rw[hat.hit j oj t _ q1 q2 q3 hpj q4,<-htx.hit j oj t _ q1 q1 q3 hpj q4];refine f4 t fun e=>?_;subst e;exact hnl (uniq j oj q1 q3 q4 ▸ q2)};{rw[hat.miss t fun j oj q1 q2 q3 q4=>hw ⟨j,oj,q1,q2,q3,q4⟩];exact f2 t}};{rcases (hin _).1 hmy with q|⟨j,oj,q1,q2,q3,q4⟩;{exact f3 m y q};{obtain⟨_,hodj,t1,_,hno1,hy1⟩:=jB q4;refine⟨fun e=>?_,?_⟩;{subst e;exact hnl (uniq j oj q1 q3 hodj ▸ q2)};{rw[hy1];exact zAD hno1}}};{rw[<-hs0] at hsim;refine hnext0 hsim fun y=>?_;rw[vX,vL,hmk,p7];exact or_congr Iff.rfl eq_comm}
    |none =>
    (have hs1:vH true ps.objs ops o (v6 ((ops.take k).take i) (pvs.take i) (zB ps.tmps)) pvs[i]:=by unfold tQ at hs0;rw[hmk] at hs0;exact hs0);have hgo:∀ n o,yG ps.objs n=some o->yG objs' n=some o:=fun n o hg=>vW h.obj.nd ((hin _).2 (.inl (y5 hg)))
    have hs2:vH true ps.objs ops o τ pvs[i]:=sO (fun t ht=>At.same D hpl (At.text D hlen i oM) hat fun j oj hj hoj hd=>by
     rcases D.look i o t j oj hik hj ho hoj ht hd with⟨q1,q2⟩|⟨q1,q2⟩;{exact .inl ⟨q1,xV hcl ho hE q2⟩}
     ·refine .inr ⟨by omega,fun hl=>?_⟩;have:=xV hcl hoj (hcl j oj hoj hl) q2;rw[xQ oM true false] at h1;exact absurd this (by unfold Lst;rw[h1];decide)) hs1
    have hnext:∀ {a':Act} {w':World} {S':Nat->Nat->Prop} {β':Bm},Sim w0 S0 K0 N (upd τ o.dst pvs[i]) objs' a' w' S' β'->wpAny Pg .any ops.toArray Q fuel (L.setIfInBounds i true) a' w':=fun hsim =>
     hnext0 hsim fun x=>⟨.inl,fun q=>q.resolve_right (by rw[hmk];simp)⟩
    refine dW ho ?_;rcases jQ h.tmp hs2 with⟨hw,hA⟩|⟨hw,hB⟩;{refine .inl ⟨hw,zA1 h (zAG hgo hA) fun pv w' S' β' v hpv l hr=>?_⟩;exact hnext (l.put o.dst hdo (hr.le _ hpv))};{refine .inr ⟨hw,hnext (h.put o.dst hdo ?_)⟩;rw[hB];exact nG _ _ _}
theorem rZ {m n:Nat}{o:Obj'}:∀ {l:List (Nat×Obj')},yG (xO l m) n=some o->n≠m/\yG l n=some o
 |[],h=>by grind [xO,yG]| (u,v)::r,h=>by
  unfold xO at h;cases hu:nqb u m with
  |true =>
   rw[hu] at h;obtain⟨h1,h2⟩:=rZ h;grind [yG,nqb]
  |false =>
   rw[hu] at h;unfold yG at h ⊢;cases hx:nqb u n with
   |true =>
    grind
   |false =>
    rw[hx] at h;exact rZ h
theorem oY {m n:Nat}{o x:Obj'}(hne:m≠n):∀ {l:List (Nat×Obj')},yG l n=some o->yG (setO l m x) n=some o
 |[],h=>by grind [yG]| (u,v)::r,h=>by
  unfold setO;cases hu:nqb u m with
  |true =>
   grind [yG,nqb]
  |false =>
   unfold yG at h ⊢;show (match nqb u n with|true=>some v|false=>yG (setO r m x) n)=some o;cases hx:nqb u n with
   |true=>grind| false=>rw[hx] at h;exact oY hne h
theorem zCC {objs objs':List (Nat×Obj')}{all:List Oper}{o:Oper}{τ:Nat->PV}{pv:PV}(hx:∀ n o,yG objs n=some o->yG objs' n=some o)(h:vH false objs all o τ pv):vH false objs' all o τ pv :=
 mO (fun h=>zAG hx h) id h
theorem zSF {all:List Oper}{us:List Nat}{n:Nat}{K:PS->Prop}:∀ (l:List Oper) (i:Nat) {ps:PS},usWp all us n l i ps K->∃ pvs ps',pvs.length=l.length/\K ps'/\ps'.objs=ps.objs/\zB ps'.tmps=v6 l pvs (zB ps.tmps) /\ ∀ j o pv,l[j]?=some o->pvs[j]?=some pv->vH false ps.objs all o (v6 (l.take j) (pvs.take j) (zB ps.tmps)) pv/\(yE (i+j) us=true->vH false (xO ps.objs n) all o (v6 (l.take j) (pvs.take j) (zB ps.tmps)) pv)
 |[],i,ps,h=>⟨[],ps,rfl,h,rfl,rfl,fun j o pv h=>by simp at h⟩| o::r,i,ps,h=>by
  simp only[usWp] at h;have hdel:∀ m y,yG (xO ps.objs n) m=some y->yG ps.objs m=some y:=fun m y q=>(rZ q).2;obtain⟨pv,ps1,h1,ho1,ht1,h2,h3⟩:∃ pv ps1,usWp all us n r (i+1) ps1 K/\ps1.objs=ps.objs/\zB ps1.tmps=upd (zB ps.tmps) o.dst pv/\vH false ps.objs all o (zB ps.tmps) pv/\(yE i us=true->vH false (xO ps.objs n) all o (zB ps.tmps) pv):=by
   (have fin:∀ (objs:List (Nat×Obj')),objs=(match yE i us with|true=>xO ps.objs n|false=>ps.objs)->∀ pv:PV,vH false objs all o (zB ps.tmps) pv->vH false ps.objs all o (zB ps.tmps) pv/\(yE i us=true->vH false (xO ps.objs n) all o (zB ps.tmps) pv):=fun objs he pv hs=>by grind [zCC]);rcases tS h with⟨pv,q1,q2⟩|⟨q1,q2⟩
   {obtain⟨pv',ps',g1,g2,g3,g4⟩:=t9 q1;grind};{exact⟨.tup [],_,q1,qQ _ _ _,xE _ _ _,fin _ rfl _ q2⟩}
  obtain⟨pvs,ps',g1,g2,g3,g4,g5⟩:=zSF r (i+1) h1;refine⟨pv::pvs,ps',by simp[g1],g2,g3.trans ho1,by rw[g4,ht1];rfl,fun j o' pv' hj hp=>?_⟩;cases j with
  |zero =>
   simp only[lU,p7] at hj hp;subst hj hp;exact⟨h2,h3⟩
  |succ j =>
   simp only[tH] at hj hp;have:=g5 j o' pv' hj hp;rw[ho1,ht1] at this;rw[show i+(j+1)=i+1+j by omega];exact this
theorem zQY {o:Oper}{ts:TypeId}{ad v:Operand}{T:List (Nat×PV)}{objs:List (Nat×Obj')}{K:PS->Prop}(hop:o.op=.store ts ad v)(hd:o.dst=none)(h:bH o ⟨T,objs⟩ K){us:List Nat}{nn:Nat}(hto:stTo us nn o ⟨T,objs⟩=true):∃ objs2,(us≠[]->∀ m y,yG (xO objs nn) m=some y->yG objs2 m=some y)/\K ⟨T,objs2⟩/\∀ (K':PS->Prop) T',(∀ x,x∈o.op.operands.toList->ev (zB T') x=ev (zB T) x)->K' ⟨T',objs2⟩->bH o ⟨T',objs⟩ K':=by
 have hev:∀ {T'},(∀ x,x∈o.op.operands.toList->ev (zB T') x=ev (zB T) x)->ev (zB T') ad=ev (zB T) ad/\ev (zB T') v=ev (zB T) v:=fun hx =>
  ⟨hx ad (by grind [Op.operands]),hx v (by grind [Op.operands])⟩
 have hkey:us≠[]->∀ m':Nat,(∀ off,ev (zB T) ad=.ptr m' off->m'=nn)/\(∀ s i off,ev (zB T) ad=.aptr m' s i off->m'=nn):=fun hu m'=>by
  unfold stTo at hto;cases us with
  |nil=>grind| cons u r =>
   grind [yY]
 have hag:∀ (m':Nat) (x:Obj'),m'=nn->∀ m y,yG (xO objs nn) m=some y->yG (setO objs m' x) m=some y:=fun m' x e m y hm=>by grind [rZ,oY]
 unfold bH at h;simp only[hop,hd,put] at h;generalize hea:ev (zB T) ad=ea at *
 generalize hvv:ev (zB T) v=vv at *
 cases ea with
 |ptr n off =>
  simp only at h;cases hg:yG objs n with
  |none=>grind| some x =>
   cases x with
   |arr s els=>grind| log s els=>grind| lent s els=>grind| mp t k=>grind| mat s r q=>grind| box cs =>
    simp only[hg] at h;split at h;{rename_i hc;refine⟨_,fun hu=>hag n _ ((hkey hu n).1 off rfl),h,fun K' T' hx hK=>?_⟩;obtain⟨e1,e2⟩:=hev hx;unfold bH;simp only[hop,hd,put,e1,e2,hg,hc];exact hK};grind
 |aptr n s i off =>
  simp only at h;cases hg:yG objs n with
  |none=>grind| some x =>
   cases x with
   |box cs=>grind| log s els=>grind| lent s els=>grind| mp t k=>grind| mat s0 r q =>
    simp only[hg] at h;split at h;{rename_i hc;obtain⟨hs1,v0,k,hs2,g1,g2,g3,g4⟩:=h.h;refine⟨_,fun hu=>hag n _ ((hkey hu n).2 s i off rfl),g4,fun K' T' hx hK=>?_⟩;obtain⟨e1,e2⟩:=hev hx;unfold bH;simp only[hop,hd,put,e1,e2,hg,hc];exact⟨⟨hs1,v0,k,hs2,g1,g2,g3,hK⟩⟩};grind
   |arr s' els =>
    simp only[hg] at h;split at h;{rename_i hc;obtain⟨c,g1,g2,g3,g4⟩:=h.h;refine⟨_,fun hu=>hag n _ ((hkey hu n).2 s i off rfl),g4,fun K' T' hx hK=>?_⟩;obtain⟨e1,e2⟩:=hev hx;unfold bH;simp only[hop,hd,put,e1,e2,hg,hc];exact⟨⟨c,g1,g2,g3,hK⟩⟩};grind
 |_=>simp only at h
theorem zAZ {objs objs':List (Nat×Obj')}{all:List Oper}{o:Oper}{τ:Nat->PV}{pv:PV}(hb:zQJ o=true)(h:vH false objs all o τ pv):vH false objs' all o τ pv :=
 mO (fun h=>zLK hb h) id h
theorem zDR:∀ {l1 l2:List Oper} {v1 v2:List PV} {τ:Nat->PV},v1.length=l1.length->v6 (l1++l2) (v1++v2) τ=v6 l2 v2 (v6 l1 v1 τ)
 |[],l2,[],v2,τ,_=>rfl| o::r,l2,v::vs,v2,τ,h=>by simp only[alT9,v6];exact zDR (by grind)| [],l2,v::vs,v2,τ,h=>by simp at h| o::r,l2,[],v2,τ,h=>by simp at h
theorem zZO {ops:List Oper}{k:Nat}(D:DrawOk ops k){Q:Exit->Act->World->Prop}{K:PS->Prop}(hdst:∀ o,o∈ops->pB N o=true)(hk:∀ ps' a' w' S' β',K ps'->Sim w0 S0 K0 N (zB ps'.tmps) ps'.objs a' w' S' β'->Q .normal a' w') {T0:List (Nat×PV)} {objs1 objs2:List (Nat×Obj')} {ps2:PS} {pvs:List PV} {i0:Nat} {os:Oper} (hi0:i0<k) (hos:ops[i0]?=some os) (hg:os.guard=none) (hkl:k<=ops.length) (hlen:pvs.length=(ops.take k).length) (hK:qP ops (ops.drop k) ⟨ps2.tmps,objs2⟩ K) (ht2:zB ps2.tmps=v6 (ops.take k) pvs (zB T0)) (hst:∀ i o pv,i<k->i≠i0->ops[i]?=some o->pvs[i]?=some pv->(vH false objs1 ops o (v6 ((ops.take k).take i) (pvs.take i) (zB T0)) pv\/((anc ops).getD i 0).testBit i0=true) /\ (vH false objs2 ops o (v6 ((ops.take k).take i) (pvs.take i) (zB T0)) pv\/((anc ops).getD i0 0).testBit i=true)) (hsto:∀ T,(∀ t,t∈jC ops os->zB T t=v6 ((ops.take k).take i0) (pvs.take i0) (zB T0) t)->bH os ⟨T,objs1⟩ (fun p=>zB p.tmps=upd (zB T) os.dst (pvs.getD i0 .any)/\p.objs=objs2)):∀ (fuel:Nat) (L:Array Bool) {a:Act} {w:World} {S:Nat->Nat->Prop} {β:Bm} {T:List (Nat×PV)} {objs':List (Nat×Obj')},L.size=ops.length->(∀ j,j<ops.length->k<=j->¬Lst L j)->(∀ i o,ops[i]?=some o->Lst L i->sJ (Lst L) o)->unl L ops.length<=fuel ->Sim w0 S0 K0 N (zB T) objs' a w S β->(Lst L i0->objs'=objs2)->(¬Lst L i0->objs'=objs1)->At ops k pvs (zB T0) (Lst L) (zB T)->wpAny Pg .any ops.toArray Q fuel L a w:=by
 have hpl:k<=pvs.length:=by grind
 have hend:∀ {T:List (Nat×PV)} {L:Array Bool},(∀ j,j<k->Lst L j)->At ops k pvs (zB T0) (Lst L) (zB T)->zB T=zB ps2.tmps:=by
  (intro T L hfull hat;funext t;rw[ht2];have htx:=At.text (τ0:=zB T0) D hlen k (zZ _);have e1:(ops.take k).take k=ops.take k:=by grind);have e2:pvs.take k=pvs:=yS (by grind)
  rw[e1,e2] at htx;exact hat.same D hpl htx fun j o hj ho hd=>.inl ⟨hfull j hj,hj⟩
 intro fuel;induction fuel with
 |zero =>
  intro L a w S β T objs' hsz hge hcl hun h hob1 hob2 hat;have hall:=tO (Nat.le_zero.1 hun);have hall':∀ j,j<ops.length->Lst L j:=fun j hj=>by have h1:=hall j hj;rw[xQ oM true false] at h1;exact h1
  (have hkn:ops.length<=k:=by grind);have hk':k=ops.length:=by omega
  refine zE3 D hdst hk 0 k L (ps:=⟨ps2.tmps,objs2⟩) (S:=S) (β:=β) (zZ _) hkl hsz (fun j hj=>⟨fun _=>by omega,fun _=>hall' j hj⟩) oM ?_ hK;grind
 |succ fuel ih =>
  intro L a w S β T objs' hsz hge hcl hun h hob1 hob2 hat;by_cases hfull:∀ j,j<k->Lst L j
  ·refine zE3 D hdst hk (fuel+1) k L (ps:=⟨ps2.tmps,objs2⟩) (S:=S) (β:=β) (zZ _) hkl hsz (fun j hj=>⟨fun hl=>?_,fun hj'=>hfull j hj'⟩) ?_ ?_ hK;{rcases uQ j k with h'|h';{exact h'};grind}
   ·have cnt:∀ n,k<=n->n<=ops.length->n<=k+unl L n:=by
     intro n;induction n with
     |zero=>omega| succ n ihn =>
      intro hkn hn;simp only[unl];by_cases hk0:k=n+1;{omega}
      ·(have:=ihn oM oM;have hnl:=hge n oM oM;have:L.getD n true≠true:=by rw[xQ oM true false];exact hnl);grind
    grind
   grind
  ·have hun0:∃ j,j<k/\¬Lst L j/\∀ i,i<j->Lst L i:=by
    have:∀ n,n<=k->(∀ i,i<n->Lst L i)\/∃ j,j<k/\¬Lst L j/\∀ i,i<j->Lst L i:=by
     intro n;induction n with
     |zero=>grind| succ n ihn =>
      intro hn;rcases ihn oM with h1|h1;{by_cases hx:Lst L n;{refine .inl fun i hi=>?_;by_cases e:i=n;{grind};grind};grind};{exact .inr h1}
    rcases this k (zZ _) with h1|h1;{grind};omega
   obtain⟨j0,hj0,hnj0,hbelow⟩:=hun0;refine⟨fun hr=>?_,fun i hi=>?_⟩
   ·(exfalso;have hlt:j0<ops.length:=by omega);have hin:j0∈Region.ready .any ops.toArray L:=by
     refine mem_ready.2 ⟨?_,ops[j0],by grind,fun e he hb=>?_⟩
     ·rw[xQ oM true false];cases hx:L.getD j0 false with
      |false=>rfl| true=>exact absurd hx hnj0
     {exact hbelow e.on (D.back j0 _ (qI hlt) e (by grind) hb)}
    grind
   ·(obtain⟨h1,o,h2,h3⟩:=mem_ready.1 hi;have ho:ops[i]?=some o:=by grind);have hlt:i<ops.length:=(wH.1 ho).1
    have hE:sJ (Lst L) o:=fun e he hb=>h3 e (by grind) hb;have hik:i<k:=by rcases uQ i k with h'|h';{exact h'};{exact absurd (xV hcl ho hE (D.rest i j0 hlt h' oM)) hnj0}
    (have hp:pvs[i]?=some pvs[i]:=qI oM;have hdo:=sE (hdst o (yA ho));have hsize:i<L.size:=by omega);have hnl:¬Lst L i:=fun hl=>by rw[xQ oM true false] at h1;unfold Lst at hl;grind
    (have hagree:∀ t,t∈jC ops o->v6 ((ops.take k).take i) (pvs.take i) (zB T0) t=zB T t:=fun t ht=>At.same D hpl (At.text D hlen i oM) hat fun j oj hj hoj hd=>by rcases D.look i o t j oj hik hj ho hoj ht hd with⟨q1,q2⟩|⟨q1,q2⟩;{exact .inl ⟨q1,xV hcl ho hE q2⟩};{refine .inr ⟨by omega,fun hl=>?_⟩;have:=xV hcl hoj (hcl j oj hoj hl) q2;grind});have hnext:∀ {a':Act} {w':World} {S':Nat->Nat->Prop} {β':Bm} {T':List (Nat×PV)} {objs3:List (Nat×Obj')},zB T'=upd (zB T) o.dst pvs[i]->Sim w0 S0 K0 N (zB T') objs3 a' w' S' β'->(Lst (L.setIfInBounds i true) i0->objs3=objs2)->(¬Lst (L.setIfInBounds i true) i0->objs3=objs1)->wpAny Pg .any ops.toArray Q fuel (L.setIfInBounds i true) a' w':=by intro a' w' S' β' T' objs3 hT hsim g1 g2;refine ih (L.setIfInBounds i true) (by simpa using hsz) (fun j hj hkj hl=>?_) (fun j oj hoj hl=>?_) ?_ hsim g1 g2 (by rw[hT];exact hat.step D hik ho hp fun j=>w8 hsize j);{rcases (w8 hsize j).1 hl with hl|hl;{exact hge j hj hkj hl};{omega}};{intro e he hb;rw[w8 hsize];rcases (w8 hsize j).1 hl with hl|hl;{exact .inl (hcl j oj hoj hl e he hb)};{subst hl;rw[ho] at hoj;cases hoj;exact .inl (hE e he hb)}};{have:=eH h1 hlt;omega}
    by_cases hie:i=i0;{subst hie;rw[ho] at hos;cases hos;have hob:objs'=objs1:=hob2 hnl;subst hob;have hs0:=hsto T fun t ht=>(hagree t ht).symm;refine dW ho (.inl ⟨by simp[Region.wanted,hg],dM (ps:=⟨T,objs'⟩) h hs0 hdo fun ps' a' w' S' β' hK hsim=>?_⟩);obtain⟨hK1,hK2⟩:=hK;refine hnext (T':=ps'.tmps) (objs3:=ps'.objs) ?_ hsim (fun _=>hK2) (fun hn=>absurd ((w8 hsize i).2 (.inr rfl)) hn);rw[hK1,uJ,hp];rfl}
    ·(obtain⟨hA1,hA2⟩:=hst i o _ hik hie ho hp;have hsame:(Lst (L.setIfInBounds i true) i0↔Lst L i0):=by rw[w8 hsize];grind);have hs1:vH false objs' ops o (v6 ((ops.take k).take i) (pvs.take i) (zB T0)) pvs[i]:=by by_cases hl0:Lst L i0;{rw[hob1 hl0];rcases hA2 with q|q;{exact q};{exact absurd (xV hcl hos (hcl i0 os hos hl0) q) hnl}};{rw[hob2 hl0];rcases hA1 with q|q;{exact q};{exact absurd (xV hcl ho hE q) hl0}}
     have hs2:vH false objs' ops o (zB T) pvs[i]:=sO hagree hs1;refine dW ho ?_;rcases jQ h.tmp hs2 with⟨hw,hA⟩|⟨hw,hB⟩;{refine .inl ⟨hw,iC h hA fun pv w' S' v hpv l hr=>?_⟩;refine hnext (S':=S') (β':=β) (T':=(put ⟨T,[]⟩ o.dst pvs[i]).tmps) (xE _ _ _) ?_ (fun q=>hob1 (hsame.1 q)) (fun q=>hob2 fun q'=>q (hsame.2 q'));rw[xE];exact (h.go l).put o.dst hdo (hr.le _ hpv)};{refine .inr ⟨hw,hnext (S':=S) (β':=β) (T':=(put ⟨T,[]⟩ o.dst pvs[i]).tmps) (xE _ _ _) ?_ (fun q=>hob1 (hsame.1 q)) (fun q=>hob2 fun q'=>q (hsame.2 q'))⟩;rw[xE];refine h.put o.dst hdo ?_;rw[hB];exact nG _ _ _}
theorem lP:∀ {l:List Oper} {x:Nat×Obj'},x∈yO l↔∃ (i:Nat) (o:Oper),l[i]?=some o/\wW o=some x
 |[],x=>by simp[yO]| o::r,x=>by have ih:=@lP r x;unfold yO;constructor;{intro h;split at h;{rename_i y hy;rcases yI.1 h with h|h;{exact⟨0,o,rfl,by grind⟩};{obtain⟨i,o',q1,q2⟩:=ih.1 h;exact⟨i+1,o',by grind,q2⟩}};{obtain⟨i,o',q1,q2⟩:=ih.1 h;exact⟨i+1,o',by grind,q2⟩}};grind
theorem oK {ops:List Oper}{k:Nat}{x:Nat×Obj'}:x∈yO (ops.take k)↔∃ i o,i<k/\ops[i]?=some o/\wW o=some x:=by rw[lP];constructor;{grind};{rintro⟨i,o,q0,q1,q2⟩;exact⟨i,o,by grind,q2⟩}
theorem mG {ps:PS}:∀ {l:List (Nat×Obj')} {n:Nat} {o:Obj'},mkIn ps l=true->(n,o)∈l->yH n ps=true
 |[],n,o,_,h=>by simp at h| (m,x)::r,n,o,hm,h=>by simp only[mkIn,yT] at hm;rcases yI.1 h with h|h;{grind};{exact mG hm.2 h}
theorem zAK {T:List (Nat×PV)}:∀ {l:List (Nat×Obj')} {n:Nat} {o:Obj'},zE2 T l=true->(n,o)∈l->mfT n T=true
 |[],n,o,_,h=>by simp at h| (m,x)::r,n,o,hm,h=>by simp only[zE2,yT] at hm;rcases yI.1 h with h|h;{grind};{exact zAK hm.2 h}
theorem zEB {n t:Nat}(ht:t≠n):∀ {T:List (Nat×PV)},mfT n T=true->xS n (zB T t)=true
 |[],_=>rfl| (u,v)::r,h=>by
  simp only[mfT,yT] at h;unfold zB;cases hu:nqb u t with
  |true =>
   grind [yY]
  |false=>exact zEB ht h.2
theorem zGD:∀ l:List PV,vG (fun v=>v) l=l
 |[]=>rfl| v::r=>by unfold vG;rw[zGD r]
theorem zF9:∀ l:List (Nat×PV),wV (fun v=>v) l=l
 |[]=>rfl| (t,v)::r=>by unfold wV;rw[zF9 r]
theorem zGB:∀ l:List (PV×(Unit->Nat)),j7 (fun v=>v) l=l
 |[]=>rfl| (v,k)::r=>by unfold j7;rw[zGB r]
theorem zLU (o:Obj'):xY (fun v=>v) o=o:=by
 cases o with
 |box cs=>simp only[xY,zGD]| mat s r q=>simp only[xY,zGB]| _=>rfl
theorem zGA:∀ l:List (Nat×Obj'),y4 (fun v=>v) l=l
 |[]=>rfl| (n,o)::r=>by
  (have e:y4 (fun v=>v) ((n,o)::r)=(n,xY (fun v=>v) o)::y4 (fun v=>v) r:=by cases o <;> rfl);rw[e,zGA r,zLU]
theorem zGH {n:Nat}{o:Obj'}:∀ (M:List Nat) {l:List (Nat×Obj')},yG (j9 M l) n=some o->yE n M=false/\yG l n=some o
 |[],l,h=>⟨rfl,h⟩| m::r,l,h=>by unfold j9 at h;obtain⟨h1,h2⟩:=zGH r h;grind [rZ,yE,yY]
theorem bZ:∀ {l:List (Nat×Obj')} {n:Nat} {x:Obj'},n∈l.map Prod.fst->(n,x)∈setO l n x
 |(u,v)::r,n,x,hn=>by
  unfold setO;cases hu:nqb u n with
  |true=>grind| false =>
   (have hne:u≠n:=fun e=>by simp_all);have hn':n∈r.map Prod.fst:=by grind
   exact xN _ (bZ hn')
 |[],n,x,hn=>by grind
theorem oH:∀ {l:List (Nat×Obj')} {n m:Nat} {x o:Obj'},m≠n->(m,o)∈l->(m,o)∈setO l n x
 |(u,v)::r,n,m,x,o,hne,h=>by
  unfold setO;cases hu:nqb u n with
  |true =>
   simp_all
  |false =>
   rcases yI.1 h with h|h;{grind};{exact xN _ (oH hne h)}
 |[],n,m,x,o,hne,h=>by simp at h
theorem oI {l:List (Nat×Obj')}{n m:Nat}{x o:Obj'}(hnd:(l.map Prod.fst).Nodup)(hn:n∈l.map Prod.fst):(m,o)∈setO l n x↔(m=n/\o=x)\/(m≠n/\(m,o)∈l) :=
 ⟨xJ hnd hn,fun h=>by rcases h with⟨rfl,rfl⟩|⟨h1,h2⟩;{exact bZ hn};grind [oH]⟩
theorem gH:∀ (l r:List Oper),yO (l++r)=yO l++yO r
 |[],r=>rfl| o::l,r=>by
  simp only[alT9,yO];cases wW o with
  |none=>exact gH l r| some x=>simp only[alT9,gH l r]
theorem jP:∀ {es:List (Nat×Nat)} {i n:Nat},yQ es i=some n->(i,n)∈es
 |(a,b)::r,i,n,h=>by
  unfold yQ at h;cases ha:nqb a i with
  |true =>
   simp_all
  |false=>rw[ha] at h;exact xN _ (jP h)
 |[],i,n,h=>by grind [yQ]
theorem rQ:∀ {l:List Nat} {n:Nat},n∈l->yE n l=true
 |m::r,n,h=>by unfold yE;rcases yI.1 h with rfl|h;{simp};{rw[rQ h];simp}
 |[],n,h=>by simp at h
theorem zDV:∀ {es:List (Nat×Nat)} {i n:Nat},(i,n)∈es->n∈kL es
 |(a,b)::r,i,n,h=>by unfold kL;rcases yI.1 h with h|h;{grind};{exact xN _ (zDV h)}
 |[],i,n,h=>by simp at h
theorem zAN:∀ {es:List (Nat×Nat)} {i j n:Nat},zMC (kL es)=true->yQ es i=some n->yQ es j=some n->i=j
 |(a,b)::r,i,j,n,hd,h1,h2=>by
  (unfold kL zMC at hd;simp only[yT,zHF] at hd;unfold yQ at h1 h2;have bad:∀ {x},yQ r x=some b->False:=fun h=>by rw[rQ (zDV (jP h))] at hd;grind);cases ha:nqb a i with
  |true =>
   grind [yY]
  |false =>
   rw[ha] at h1;cases hb:nqb a j with
   |true=>grind| false=>rw[hb] at h2;exact zAN hd.2 h1 h2
 |[],i,j,n,_,h1,_=>by grind [yQ]
theorem zCI:∀ {ms:List (Nat×Obj')} {cs:List PV},zI1 ms cs=true->∀ d y,(d,y)∈ms->wD d cs=true
 |(a,b)::r,cs,h,d,y,hm=>by unfold zI1 at h;simp only[yT] at h;rcases yI.1 hm with hm|hm;{grind};{exact zCI h.2 d y hm}
 |[],cs,h,d,y,hm=>by grind
theorem oN {ops:List Oper}{o:Oper}{T:List (Nat×PV)}{τ:Nat->PV}(hg:o.guard=none)(h:∀ t,t∈jC ops o->zB T t=τ t):∀ x,x∈o.op.operands.toList->ev (zB T) x=ev τ x:=fun x hx=>by
 cases x with
 |tmp t =>
  show zB T t=τ t;refine h t ?_;unfold jC;grind
 |_=>rfl
inductive EfStep (ops:List Oper) (es:List (Nat×Nat)) (ms lim:List (Nat×Obj')) (i:Nat) (o:Oper) (τ:Nat->PV) (pv:PV) (O O':List (Nat×Obj')):Prop
 |mk {d x} (h:wW o=some (d,x)) (hp:pv=.ptr d 0) (hO:O'=O++[(d,x)])
 |eff {n x x0} (hm:wW o=none) (he:yQ es i=some n) (h0:yG O n=some x0) (hfree:∀ d y,(d,y)∈ms->fZ d x) (hg:o.guard=none)
   (hgo:∀ (T':List (Nat×PV)) (O1:List (Nat×Obj')),(∀ t,t∈jC ops o->zB T' t=τ t)->yG O1 n=some x0->bH o ⟨T',O1⟩ (fun p=>zB p.tmps=upd (zB T') o.dst pv/\p.objs=setO O1 n x)) (hO:O'=setO O n x)
 |pure (hm:wW o=none) (he:yQ es i=none) (h:vH true lim ops o τ pv) (hO:O'=O)
theorem zV6 {ops:List Oper}{ms:List (Nat×Obj')}{o:Oper}{n:Nat}{T:List (Nat×PV)}{O:List (Nat×Obj')}{K:PV->Obj'->Prop}(h:eff1 ms o n T O K):∃ pv x x0,K pv x/\yG O n=some x0/\(∀ d y,(d,y)∈ms->fZ d x)/\o.guard=none /\ ∀ (T':List (Nat×PV)) (O1:List (Nat×Obj')),(∀ t,t∈jC ops o->zB T' t=zB T t)->yG O1 n=some x0->bH o ⟨T',O1⟩ (fun p=>zB p.tmps=upd (zB T') o.dst pv/\p.objs=setO O1 n x):=by
 unfold eff1 at h;cases hg:o.guard with
 |some g=>grind| none =>
 rw[hg] at h;simp only at h;cases hop:o.op with
 |store t a v =>
  rw[hop] at h;simp only at h;cases hd:o.dst with
  |some d=>grind| none =>
   rw[hd] at h;simp only at h;cases hea:ev (zB T) a with
   |ptr m off =>
    rw[hea] at h;simp only at h;cases hmn:nqb m n with
    |false=>grind| true =>
     rw[hmn] at h;simp only at h;have:=yY hmn;subst this;cases hgo:yG O m with
     |none=>grind| some x0 =>
      rw[hgo] at h;cases x0 with
      |arr s e=>grind| log s e=>grind| lent s e=>grind| mat s r q=>grind| mp t k=>grind| box cs =>
       simp only at h;split at h;{rename_i hc;simp only[yT] at hc;refine⟨_,_,_,h,rfl,fun d y hy=>zCI hc.2 d y hy,rfl,fun T' O1 hT hO=>?_⟩;have hev:=oN hg hT;have e1:ev (zB T') a=.ptr m off:=(hev a (by grind [Op.operands])).trans hea;have e2:ev (zB T') v=ev (zB T) v:=hev v (by grind [Op.operands]);have hc':=hc.1;unfold bH;simp only[hop,e1,e2,hO];rw[show (nqb (yM (ev (zB T) v)).length (ty t).cells&&nle (off+(ty t).cells) cs.length&&nlt 0 (ty t).cells&&yR pW (yM (ev (zB T) v)))=true by grind];simp only[hd,put];refine⟨?_,?_⟩ <;> first|rfl|trivial};grind
   |_=>rw[hea] at h;exact h.elim
 |call c =>
  rw[hop] at h;simp only at h;cases hcl:c.callee with
  |value g =>
   rw[hcl] at h;simp only at h;obtain⟨f,caps,hn,cargs,m,x,r,x',E1,E2,E3,E4,E5,E6,E7,E8,E9,E10,E11⟩:=h.h;refine⟨_,_,_,E11,E5,fun d y _=>?_,rfl,fun T' O1 hT hO=>?_⟩
   ·cases x' with
    |box cs=>exact zFT d E7| arr s e=>trivial| log s e=>trivial| lent s e=>trivial| mp t k=>trivial| mat s r q =>
     cases q with
     |nil=>rfl| cons x y=>cases E7
   {have hev:=oN hg hT;have hargs:∀ x,x∈c.args.toList->ev (zB T') x=ev (zB T) x:=fun x hx=>hev x (by grind [Op.operands,Call.operands]);have hf:ev (zB T') g=ev (zB T) g:=hev g (by grind [Op.operands,Call.operands]);subst E4;unfold bH;simp only[hop,hcl];refine⟨⟨T',O1⟩,.refl _,f,caps,by grind,.inr ⟨hn,cargs,[(m,x)],[],r,[(m,x')],[],?_,E3,⟨⟨by grind [zCS],zBC E6⟩,trivial⟩,rfl,rfl,?_,rfl,rfl,E8,E9,E10,?_,?_⟩⟩;{grind [r9]};{show ((cR x'&&nmOb [m] x')&&true)=true;grind [zBC,zP5]};{rw[xE];show upd (zB (wV (fun v=>v) T')) o.dst _=_;rw[zF9]};{rw[qQ];show setO (y4 (fun v=>v) O1) (hn m) (xY (ren hn) x')++[]=_;rw[zGA,uU,zCS E7]}}
  |_=>grind
 |_=>rw[hop] at h;exact h.elim
theorem zTL {ops:List Oper}{es:List (Nat×Nat)}{ms lim:List (Nat×Obj')}{K:List (Nat×PV)->List (Nat×Obj')->Prop}:∀ (l:List Oper) (i:Nat) {T:List (Nat×PV)} {O:List (Nat×Obj')},efWp ops es ms lim l i T O K ->∃ (pvs:List PV) (Ob:Nat->List (Nat×Obj')) (T':List (Nat×PV)),pvs.length=l.length/\Ob 0=O/\K T' (Ob l.length)/\zB T'=v6 l pvs (zB T) /\ ∀ j o pv,l[j]?=some o->pvs[j]?=some pv->EfStep ops es ms lim (i+j) o (v6 (l.take j) (pvs.take j) (zB T)) pv (Ob j) (Ob (j+1))
 |[],i,T,O,h=>⟨[],fun _=>O,T,rfl,rfl,h,rfl,fun j o pv h=>by simp at h⟩| o::r,i,T,O,h=>by
  obtain⟨pv,O1,T1,h1,ht1,hst⟩:∃ pv O1 T1,efWp ops es ms lim r (i+1) T1 O1 K/\zB T1=upd (zB T) o.dst pv/\EfStep ops es ms lim i o (zB T) pv O O1:=by
   unfold efWp at h;cases hm:wW o with
   |some dx =>
    obtain⟨d,x⟩:=dx;rw[hm] at h;simp only at h;obtain⟨_,hd,_⟩:=jB hm;exact⟨.ptr d 0,_,_,h,by rw[hd];funext t;simp[upd,cS],.mk hm rfl rfl⟩
   |none =>
    rw[hm] at h;simp only at h;cases he:yQ es i with
    |some n =>
     rw[he] at h;simp only at h;obtain⟨pv,x,x0,h1,h2,h3,h4,h5⟩:=zV6 (ops:=ops) h;exact⟨pv,_,_,h1,xE _ _ _,.eff hm he h2 h3 h4 h5 rfl⟩
    |none =>
     rw[he] at h;simp only at h;rcases tS h with⟨pv,q1,q2⟩|⟨q1,q2⟩;{obtain⟨pv',p,g1,g2,g3,g4⟩:=t9 q1;exact⟨pv',O,p.tmps,g2,g4,.pure hm he (q2 pv' g1) rfl⟩};{exact⟨.tup [],O,_,q1,xE _ _ _,.pure hm he q2 rfl⟩}
  obtain⟨pvs,Ob,T',g1,g2,g3,g4,g5⟩:=zTL r (i+1) h1;refine⟨pv::pvs,fun j=>match j with|0=>O|j+1=>Ob j,T',by simp[g1],rfl,by omega,by rw[g4,ht1];rfl,fun j o' pv' hj hp=>?_⟩;cases j with
  |zero =>
   simp only[lU,p7] at hj hp;subst hj hp;show EfStep ops es ms lim i o _ pv O (Ob 0);rw[g2];exact hst
  |succ j =>
   simp only[tH] at hj hp;have:=g5 j o' pv' hj hp;rw[ht1] at this;rw[show i+(j+1)=i+1+j by omega];exact this
def EMem (ops:List Oper) (es:List (Nat×Nat)) (k:Nat) (O0:List (Nat×Obj')) (X:Nat->Obj') (L:Nat->Prop) (y:Nat×Obj'):Prop :=
 ((y∈O0\/∃ j oj,j<k/\L j/\ops[j]?=some oj/\wW oj=some y)/\¬∃ i,i<k/\yQ es i=some y.1/\L i)\/(∃ i,i<k/\yQ es i=some y.1/\L i/\X i=y.2)
section
variable {ops:List Oper} {es:List (Nat×Nat)} {k:Nat} {O0:List (Nat×Obj')} {X:Nat->Obj'} {L L':Nat->Prop}
theorem EMem.pure {i:Nat}{o:Oper}(ho:ops[i]?=some o)(hm:wW o=none)(he:yQ es i=none)(hL':∀ j,L' j↔L j\/j=i)(y:Nat×Obj'):EMem ops es k O0 X L' y↔EMem ops es k O0 X L y:=by
 have h1:(∃ j oj,j<k/\L' j/\ops[j]?=some oj/\wW oj=some y)↔∃ j oj,j<k/\L j/\ops[j]?=some oj/\wW oj=some y:=by grind
 have h2:∀ P:Nat->Prop,(∃ j,j<k/\yQ es j=some y.1/\L' j/\P j)↔∃ j,j<k/\yQ es j=some y.1/\L j/\P j:=by grind
 have h3:(∃ i,i<k/\yQ es i=some y.1/\L' i)↔∃ i,i<k/\yQ es i=some y.1/\L i:=by grind
 unfold EMem;simp_all
theorem EMem.mk {i:Nat}{o:Oper}{d:Nat}{x:Obj'}(ho:ops[i]?=some o)(hik:i<k)(hm:wW o=some (d,x))(he:yQ es i=none)(hno:∀ j,j<k->yQ es j=some d->¬L j)(hL':∀ j,L' j↔L j\/j=i)(y:Nat×Obj'):EMem ops es k O0 X L' y↔EMem ops es k O0 X L y\/y=(d,x):=by
 have h1:(∃ j oj,j<k/\L' j/\ops[j]?=some oj/\wW oj=some y)↔(∃ j oj,j<k/\L j/\ops[j]?=some oj/\wW oj=some y)\/y=(d,x):=by grind
 have h2:∀ P:Nat->Prop,(∃ j,j<k/\yQ es j=some y.1/\L' j/\P j)↔∃ j,j<k/\yQ es j=some y.1/\L j/\P j:=by grind
 have h3:(∃ i,i<k/\yQ es i=some y.1/\L' i)↔∃ i,i<k/\yQ es i=some y.1/\L i:=by grind
 have h4:y=(d,x)->¬∃ i,i<k/\yQ es i=some y.1/\L i:=by grind
 unfold EMem;rw[h1,h2,h3];constructor
 ·rintro (⟨q1|q1|q1,q2⟩|q);{grind};{grind}
  all_goals grind
 ·rintro ((⟨q1|q1,q2⟩|q)|q);{grind};{grind}
  all_goals grind
theorem EMem.eff {i:Nat}{o:Oper}{n:Nat}(hinj:∀ {i j n},yQ es i=some n->yQ es j=some n->i=j)(ho:ops[i]?=some o)(hik:i<k)(hm:wW o=none)(he:yQ es i=some n)(hL':∀ j,L' j↔L j\/j=i)(y:Nat×Obj'):EMem ops es k O0 X L' y↔(y.1=n/\y.2=X i)\/(y.1≠n/\EMem ops es k O0 X L y):=by
 have h1:(∃ j oj,j<k/\L' j/\ops[j]?=some oj/\wW oj=some y)↔∃ j oj,j<k/\L j/\ops[j]?=some oj/\wW oj=some y:=by grind
 by_cases hy:y.1=n;{have h2:∀ j,yQ es j=some y.1->j=i:=fun j hj=>hinj (by grind) he;unfold EMem;grind}
 ·(have h2:∀ P:Nat->Prop,(∃ j,j<k/\yQ es j=some y.1/\L' j/\P j)↔∃ j,j<k/\yQ es j=some y.1/\L j/\P j:=by grind);have h3:(∃ i,i<k/\yQ es i=some y.1/\L' i)↔∃ i,i<k/\yQ es i=some y.1/\L i:=by grind
  unfold EMem;rw[h1,h2,h3];constructor;{intro q;exact .inr ⟨hy,q⟩}
  ·rintro (⟨q,_⟩|⟨_,q⟩)
   all_goals omega
end
theorem zZQ {ops:List Oper}{k:Nat}(D:DrawOk ops k){Q:Exit->Act->World->Prop}{K:PS->Prop}(hdst:∀ o,o∈ops->pB N o=true)(hk:∀ ps' a' w' S' β',K ps'->Sim w0 S0 K0 N (zB ps'.tmps) ps'.objs a' w' S' β'->Q .normal a' w') {T0 T2:List (Nat×PV)} {O0 O2:List (Nat×Obj')} {pvs:List PV} {es:List (Nat×Nat)} {ms lim:List (Nat×Obj')} {X:Nat->Obj'} {Ob:Nat->List (Nat×Obj')} (hkl:k<=ops.length) (hlen:pvs.length=(ops.take k).length) (hK:qP ops (ops.drop k) ⟨T2,O2⟩ K) (ht2:zB T2=v6 (ops.take k) pvs (zB T0)) (hO2:∀ y,y∈O2↔EMem ops es k O0 X (fun j=>j<k) y) (hnd2:(O2.map Prod.fst).Nodup) (hms:∀ x,x∈ms↔∃ i o,i<k/\ops[i]?=some o/\wW o=some x) (hfr:∀ n x,(n,x)∈ms->n<1000000/\(∀ t,xS n (zB T0 t)=true)/\(∀ m o,(m,o)∈O0->m≠n/\fZ n o)/\(∀ t,t≠n->xS n (zB T2 t)=true)) (hlim:∀ n o,yG lim n=some o->(n,o)∈O0/\∀ i,yQ es i≠some n) (hinj:∀ {i j n},yQ es i=some n->yQ es j=some n->i=j) (hmkE:∀ i o x,ops[i]?=some o->wW o=some x->yQ es i=none) (hanc:∀ i n j oj x,i<k->yQ es i=some n->j<k->ops[j]?=some oj->wW oj=some (n,x)->((anc ops).getD i 0).testBit j=true) (hOb:∀ i,i<k->∀ y,y∈Ob i↔EMem ops es k O0 X (fun j=>j<i) y) (hst:∀ i o pv,(ops.take k)[i]?=some o->pvs[i]?=some pv->EfStep ops es ms lim i o (v6 ((ops.take k).take i) (pvs.take i) (zB T0)) pv (Ob i) (Ob (i+1))) (hX:∀ i n x,i<k->yQ es i=some n->(n,x)∈Ob (i+1)->X i=x) (hXin:∀ i n x0 x,yG (Ob i) n=some x0->(n,x)∈setO (Ob i) n x):∀ (fuel:Nat) (L:Array Bool) {a:Act} {w:World} {S:Nat->Nat->Prop} {β:Bm} {T:List (Nat×PV)} {objs':List (Nat×Obj')},L.size=ops.length->(∀ j,j<ops.length->k<=j->¬Lst L j)->(∀ i o,ops[i]?=some o->Lst L i->sJ (Lst L) o)->unl L ops.length<=fuel ->Sim w0 S0 K0 N (zB T) objs' a w S β->(∀ y,y∈objs'↔EMem ops es k O0 X (Lst L) y)->At ops k pvs (zB T0) (Lst L) (zB T)->wpAny Pg .any ops.toArray Q fuel L a w:=by
 have hpl:k<=pvs.length:=by rw[hlen];simp;omega
 have htx:At ops k pvs (zB T0) (fun j=>j<k) (zB T2):=by
  (have htx:=At.text (τ0:=zB T0) D hlen k (zZ _);have e1:(ops.take k).take k=ops.take k:=by rw[List.take_take,Nat.min_self]);have e2:pvs.take k=pvs:=yS (by rw[hlen];simp;omega)
  grind
 have hend:∀ {T:List (Nat×PV)} {L:Array Bool},(∀ j,j<k->Lst L j)->At ops k pvs (zB T0) (Lst L) (zB T)->zB T=zB T2:=by intro T L hfull hat;funext t;exact hat.same D hpl htx fun j o hj ho hd=>.inl ⟨hfull j hj,hj⟩
 have hEx:∀ {L:Array Bool},(∀ j,j<k->Lst L j)->∀ y,EMem ops es k O0 X (Lst L) y↔EMem ops es k O0 X (fun j=>j<k) y:=by
  (intro L hfull y;have e1:∀ P:Nat->Prop,(∃ j,j<k/\yQ es j=some y.1/\Lst L j/\P j)↔∃ j,j<k/\yQ es j=some y.1/\j<k/\P j:=fun P=>⟨fun⟨j,q1,q2,_,q4⟩=>⟨j,q1,q2,q1,q4⟩,fun⟨j,q1,q2,_,q4⟩=>⟨j,q1,q2,hfull j q1,q4⟩⟩;have e2:(∃ j oj,j<k/\Lst L j/\ops[j]?=some oj/\wW oj=some y)↔∃ j oj,j<k/\j<k/\ops[j]?=some oj/\wW oj=some y:=⟨fun⟨j,oj,q1,_,q3⟩=>⟨j,oj,q1,q1,q3⟩,fun⟨j,oj,q1,_,q3⟩=>⟨j,oj,q1,hfull j q1,q3⟩⟩;have e3:(∃ i,i<k/\yQ es i=some y.1/\Lst L i)↔∃ i,i<k/\yQ es i=some y.1/\i<k:=by simpa using e1 (fun _=>True));unfold EMem
  rw[e1,e2,e3]
 intro fuel;induction fuel with
 |zero =>
  (intro L a w S β T objs' hsz hge hcl hun h hin hat;have hall:=tO (Nat.le_zero.1 hun);have hall':∀ j,j<ops.length->Lst L j:=fun j hj=>by have h1:=hall j hj;rw[xQ oM true false] at h1;exact h1);have hkn:ops.length<=k:=by rcases uQ k ops.length with h'|h';{exact absurd (hall' k h') (hge k h' (zZ _))};omega
  have hfull:∀ j,j<k->Lst L j:=fun j hj=>hall' j oM;refine zE3 D hdst hk 0 k L (ps:=⟨T2,O2⟩) (S:=S) (β:=β) (zZ _) hkl hsz (fun j hj=>⟨fun _=>by omega,fun _=>hall' j hj⟩) oM ?_ hK;show Sim w0 S0 K0 N (zB T2) O2 a w S β;rw[<-hend hfull hat];exact h.perm (fun x=>by rw[hO2 x,hin x,hEx hfull x]) hnd2
 |succ fuel ih =>
  intro L a w S β T objs' hsz hge hcl hun h hin hat;by_cases hfull:∀ j,j<k->Lst L j
  ·refine zE3 D hdst hk (fuel+1) k L (ps:=⟨T2,O2⟩) (S:=S) (β:=β) (zZ _) hkl hsz (fun j hj=>⟨fun hl=>?_,fun hj'=>hfull j hj'⟩) ?_ ?_ hK;{rcases uQ j k with h'|h';{exact h'};{exact absurd hl (hge j hj h')}}
   ·have cnt:∀ n,k<=n->n<=ops.length->n<=k+unl L n:=by
     intro n;induction n with
     |zero=>omega| succ n ihn =>
      intro hkn hn;simp only[unl];by_cases hk0:k=n+1;{omega}
      ·(have:=ihn oM oM;have hnl:=hge n oM oM;have:L.getD n true≠true:=by rw[xQ oM true false];exact hnl);rw[if_neg this]
       omega
    have:=cnt ops.length hkl (zZ _);omega
   {show Sim w0 S0 K0 N (zB T2) O2 a w S β;rw[<-hend hfull hat];exact h.perm (fun x=>by rw[hO2 x,hin x,hEx hfull x]) hnd2}
  ·have hun0:∃ j,j<k/\¬Lst L j/\∀ i,i<j->Lst L i:=by
    have:∀ n,n<=k->(∀ i,i<n->Lst L i)\/∃ j,j<k/\¬Lst L j/\∀ i,i<j->Lst L i:=by
     intro n;induction n with
     |zero=>intro _;exact .inl fun i h=>by omega| succ n ihn =>
      intro hn;rcases ihn oM with h1|h1;{by_cases hx:Lst L n;{refine .inl fun i hi=>?_;by_cases e:i=n;{exact e ▸ hx};{exact h1 i oM}};{exact .inr ⟨n,by omega,hx,h1⟩}};{exact .inr h1}
    rcases this k (zZ _) with h1|h1;{exact absurd h1 hfull};omega
   obtain⟨j0,hj0,hnj0,hbelow⟩:=hun0;refine⟨fun hr=>?_,fun i hi=>?_⟩
   ·(exfalso;have hlt:j0<ops.length:=by omega);have hin:j0∈Region.ready .any ops.toArray L:=by
     refine mem_ready.2 ⟨?_,ops[j0],by simp[hlt],fun e he hb=>?_⟩
     ·rw[xQ oM true false];cases hx:L.getD j0 false with
      |false=>rfl| true=>exact absurd hx hnj0
     {exact hbelow e.on (D.back j0 _ (qI hlt) e (by simpa using he) hb)}
    rw[hr] at hin;cases hin
   ·(obtain⟨h1,o,h2,h3⟩:=mem_ready.1 hi;have ho:ops[i]?=some o:=by simpa using h2);have hlt:i<ops.length:=(wH.1 ho).1
    have hE:sJ (Lst L) o:=fun e he hb=>h3 e (by simpa using he) hb;have hik:i<k:=by rcases uQ i k with h'|h';{exact h'};{exact absurd (xV hcl ho hE (D.rest i j0 hlt h' oM)) hnj0}
    (have hp:pvs[i]?=some pvs[i]:=qI oM;have hdo:=sE (hdst o (yA ho));have hsize:i<L.size:=by omega);have hnl:¬Lst L i:=fun hl=>by rw[xQ oM true false] at h1;unfold Lst at hl;rw[h1] at hl;exact absurd hl (by decide)
    (have hagree:∀ t,t∈jC ops o->v6 ((ops.take k).take i) (pvs.take i) (zB T0) t=zB T t:=fun t ht=>At.same D hpl (At.text D hlen i oM) hat fun j oj hj hoj hd=>by rcases D.look i o t j oj hik hj ho hoj ht hd with⟨q1,q2⟩|⟨q1,q2⟩;{exact .inl ⟨q1,xV hcl ho hE q2⟩};{refine .inr ⟨by omega,fun hl=>?_⟩;have:=xV hcl hoj (hcl j oj hoj hl) q2;rw[xQ oM true false] at h1;exact absurd this (by unfold Lst;rw[h1];decide)});have hLs:∀ j,Lst (L.setIfInBounds i true) j↔Lst L j\/j=i:=w8 hsize;have hnext:∀ {a':Act} {w':World} {S':Nat->Nat->Prop} {β':Bm} {T':List (Nat×PV)} {objs3:List (Nat×Obj')},zB T'=upd (zB T) o.dst pvs[i]->Sim w0 S0 K0 N (zB T') objs3 a' w' S' β'->(∀ y,y∈objs3↔EMem ops es k O0 X (Lst (L.setIfInBounds i true)) y)->wpAny Pg .any ops.toArray Q fuel (L.setIfInBounds i true) a' w':=by intro a' w' S' β' T' objs3 hT hsim g1;refine ih (L.setIfInBounds i true) (by simpa using hsz) (fun j hj hkj hl=>?_) (fun j oj hoj hl=>?_) ?_ hsim g1 (by rw[hT];exact hat.step D hik ho hp fun j=>w8 hsize j);{rcases (w8 hsize j).1 hl with hl|hl;{exact hge j hj hkj hl};{omega}};{intro e he hb;rw[w8 hsize];rcases (w8 hsize j).1 hl with hl|hl;{exact .inl (hcl j oj hoj hl e he hb)};{subst hl;rw[ho] at hoj;cases hoj;exact .inl (hE e he hb)}};{have:=eH h1 hlt;omega}
    cases hst i o pvs[i] (by rw[jY hik];exact ho) hp with
    | @mk d x hmk hpv hO =>
     obtain⟨hgn,hod,t0,hop0,hno0,hx0⟩:=jB hmk;have hinms:(d,x)∈ms:=(hms _).2 ⟨i,o,hik,ho,hmk⟩;obtain⟨f1,f2,f3,f4⟩:=hfr d x hinms;have uniq:∀ j oj,j<k->ops[j]?=some oj->oj.dst=some d->j=i:=fun j oj hj hoj hd' =>
      aH D.dst (by rw[jY hj];exact hoj) (by rw[jY hik];exact ho) hd' hod
     (have hnoE:∀ j,j<k->yQ es j=some d->¬Lst L j:=fun j hj hje hjl=>by have hjo:ops[j]?=some ops[j]:=qI oM;exact hnl (xV hcl hjo (hcl j _ hjo hjl) (hanc j d i o x hj hje hik ho hmk)));refine dW ho (.inl ⟨by simp[Region.wanted,hgn],zWZ hmk (hdst o (yA ho)) h f1 (fun t=>?_) (fun {m y} hmy=>?_) fun a' w' β' hsim=>?_⟩)
     {by_cases hw:∃ j oj,j<k/\Lst L j/\ops[j]?=some oj/\oj.dst=some t;{obtain⟨j,oj,q1,q2,q3,q4⟩:=hw;have hpj:pvs[j]?=some pvs[j]:=qI oM;rw[hat.hit j oj t _ q1 q2 q3 hpj q4,<-htx.hit j oj t _ q1 q1 q3 hpj q4];refine f4 t fun e=>?_;subst e;exact hnl (uniq j oj q1 q3 q4 ▸ q2)};{rw[hat.miss t fun j oj q1 q2 q3 q4=>hw ⟨j,oj,q1,q2,q3,q4⟩];exact f2 t}}
     ·rcases (hin _).1 hmy with⟨q|⟨j,oj,q1,q2,q3,q4⟩,_⟩|⟨j,q1,q2,q3,q4⟩;{exact f3 m y q};{obtain⟨_,hodj,t1,_,hno1,hy1⟩:=jB q4;refine⟨fun e=>?_,?_⟩;{subst e;exact hnl (uniq j oj q1 q3 hodj ▸ q2)};{rw[hy1];exact zAD hno1}}
      ·refine⟨fun e=>?_,?_⟩;{simp only at q2;rw[e] at q2;exact hnoE j q1 q2 q3}
       ·have hjo:ops[j]?=some ops[j]:=qI oM;have hpj:pvs[j]?=some pvs[j]:=qI oM;cases hst j ops[j] pvs[j] (by rw[jY q1];exact hjo) hpj with
        |mk hmk' _ _=>rw[hmkE j _ _ hjo hmk'] at q2;cases q2
        |pure _ he' _ _=>rw[he'] at q2;cases q2
        |eff hm' he' h0' hfree' hg' hgo' hO' =>
         rw[he'] at q2;cases q2;have:=hX j _ _ q1 he' (by rw[hO'];exact hXin _ _ _ _ h0');have q4':X j=y:=q4;rw[<-q4',this];exact hfree' d x hinms
     {have hT:zB (put ⟨T,[]⟩ o.dst pvs[i]).tmps=upd (zB T) o.dst pvs[i]:=xE _ _ _;rw[<-hpv,<-hT] at hsim;refine hnext hT hsim fun y=>?_;rw[vX,vL,EMem.mk ho hik hmk (hmkE i o _ ho hmk) hnoE hLs y,hin y]}
    | @eff n x x0 hm he h0 hfree hg hgo hO =>
     have hxX:X i=x:=hX i n x hik he (by rw[hO];exact hXin _ _ _ _ h0);have hne:∀ {y:Nat×Obj'} {M:Nat->Prop},y.1=n->¬M i->EMem ops es k O0 X M y->(y∈O0\/∃ j oj,j<k/\M j/\ops[j]?=some oj/\wW oj=some y):=fun {y M} hy hMi hE=>by rcases hE with⟨q,_⟩|⟨j,q1,q2,q3,q4⟩;{exact q};{rw[hy] at q2;have:=hinj q2 he;subst this;exact absurd q3 hMi}
     (have hx0:=hne (y:=(n,x0)) rfl oM ((hOb i hik _).1 (y5 h0));have hnoL:¬∃ j,j<k/\yQ es j=some n/\Lst L j:=fun⟨j,q1,q2,q3⟩=>hnl (hinj q2 he ▸ q3);have hin0:(n,x0)∈objs':=by rw[hin];refine .inl ⟨?_,hnoL⟩;rcases hx0 with q|⟨j,oj,q1,q2,q3,q4⟩;{exact .inl q};{exact .inr ⟨j,oj,q1,xV hcl ho hE (hanc i n j oj x0 hik he q1 q3 q4),q3,q4⟩});have hget:yG objs' n=some x0:=vW h.obj.nd hin0;have hs0:=hgo T objs' (fun t ht=>(hagree t ht).symm) hget;have hnin:n∈objs'.map Prod.fst:=y8.2 ⟨_,hin0,rfl⟩;refine dW ho (.inl ⟨by simp[Region.wanted,hg],dM (ps:=⟨T,objs'⟩) h hs0 hdo fun ps' a' w' S' β' hK hsim=>?_⟩);obtain⟨hK1,hK2⟩:=hK;rw[hK2] at hsim;refine hnext hK1 hsim fun y=>?_;obtain⟨y1,y2⟩:=y;rw[oI h.obj.nd hnin,EMem.eff hinj ho hik hm he hLs,hin,hxX]
    |pure hm he hs1 hO =>
     have hgo:∀ n o,yG lim n=some o->yG objs' n=some o:=fun n o hg=>by obtain⟨q1,q2⟩:=hlim n o hg;exact vW h.obj.nd ((hin _).2 (.inl ⟨.inl q1,fun⟨j,_,q3,_⟩=>q2 j q3⟩))
     (have hs2:vH true lim ops o (zB T) pvs[i]:=sO hagree hs1;have hfin:∀ y,y∈objs'↔EMem ops es k O0 X (Lst (L.setIfInBounds i true)) y:=fun y=>by rw[EMem.pure ho hm he hLs y,hin y]);refine dW ho ?_
     rcases jQ h.tmp hs2 with⟨hw,hA⟩|⟨hw,hB⟩;{refine .inl ⟨hw,zA1 h (zAG hgo hA) fun pv w' S' β' v hpv l hr=>?_⟩;refine hnext (S':=S') (β':=β') (T':=(put ⟨T,[]⟩ o.dst pvs[i]).tmps) (xE _ _ _) ?_ hfin;rw[xE];exact l.put o.dst hdo (hr.le _ hpv)};{refine .inr ⟨hw,hnext (S':=S) (β':=β) (T':=(put ⟨T,[]⟩ o.dst pvs[i]).tmps) (xE _ _ _) ?_ hfin⟩;rw[xE];refine h.put o.dst hdo ?_;rw[hB];exact nG _ _ _}
theorem eP {P:List Nat}{w:World}{S:Nat->Nat->Prop}{β:Bm}{v:Value}{pv:PV}(h:Rep w S β v pv):Rep w S β v (scA P pv):=by
 cases pv with
 |agg cs=>exact xK _| tup cs=>exact xK _| fn f cs=>exact xK _| ptr m off=>simp only[scA];cases yE m P <;> first|exact h|exact xK _
 |aptr m s i off=>simp only[scA];cases yE m P <;> first|exact h|exact xK _
 |osl m s i len=>simp only[scA];cases yE m P <;> first|exact h|exact xK _
 |mpv m=>simp only[scA];cases yE m P <;> first|exact h|exact xK _
 |_=>exact h
theorem zHP {P:List Nat}{w:World}{S:Nat->Nat->Prop}{β:Bm}{v:Value}{pv:PV}(h:Rep w S β v pv):Rep w S β v (scB P pv):=by
 cases pv with
 |agg cs =>
  obtain⟨vs,rfl,h1,h2⟩:=qL h;exact .agg (by grind [zL]) fun j hj=>by rw[zL] at hj;rw[yJ _ rfl];grind [eP]
 |tup cs =>
  obtain⟨vs,rfl,h1,h2⟩:=fK h;exact .tup (by grind [zL]) fun j hj=>by rw[zL] at hj;rw[yJ _ rfl];grind [eP]
 |fn f cs =>
  obtain⟨vs,rfl,h1,h2⟩:=gM h;exact .fn (by grind [zL]) fun j hj=>by rw[zL] at hj;rw[yJ _ rfl];grind [eP]
 |_=>first|exact eP (P:=P) h|exact h
theorem nF {P:List Nat}{w:World}{S:Nat->Nat->Prop}{β:Bm}{v:Value}{pv:PV}(h:Rep w S β v pv):Rep w S β v (scC P pv):=by
 cases pv with
 |agg cs =>
  obtain⟨vs,rfl,h1,h2⟩:=qL h;exact .agg (by grind [zL]) fun j hj=>by rw[zL] at hj;rw[yJ _ rfl];grind [zHP]
 |tup cs =>
  obtain⟨vs,rfl,h1,h2⟩:=fK h;exact .tup (by grind [zL]) fun j hj=>by rw[zL] at hj;rw[yJ _ rfl];grind [zHP]
 |fn f cs =>
  obtain⟨vs,rfl,h1,h2⟩:=gM h;exact .fn (by grind [zL]) fun j hj=>by rw[zL] at hj;rw[yJ _ rfl];grind [zHP]
 |_=>exact eP (P:=P) h
theorem aF (f g h:PV->PV)(H:∀ v,f (g v)=h v):∀ l:List PV,vG f (vG g l)=vG h l
 |[]=>rfl| v::r=>by simp only[vG,H,aF f g h H r]
theorem pQ (f g:PV->PV)(H:∀ v,f v=g v):∀ l:List PV,vG f l=vG g l
 |[]=>rfl| v::r=>by simp only[vG,H,pQ f g H r]
theorem zJ0 (m n:Nat):nqb m n=nqb n m:=by grind [nqb]
theorem zDZ {P P':List Nat}(H:∀ m,yE m P=true->yE m P'=true)(v:PV):scA P' (scA P v)=scA P' v:=by
 have key:∀ {m:Nat} {x:PV},(∀ y,scA P' y=scA P' y)->(yE m P'=true->scA P' x=.any)->scA P' (match yE m P with|true=>PV.any|false=>x)=scA P' x:=by
  intro m x _ hx;cases h:yE m P with
  |true=>rw[hx (H m h)];rfl
  |false=>rfl
 cases v with
 |ptr m off=>exact key (fun _=>rfl) (fun h=>by simp only[scA,h])| aptr m s i off=>exact key (fun _=>rfl) (fun h=>by simp only[scA,h])| osl m s i len=>exact key (fun _=>rfl) (fun h=>by simp only[scA,h])| mpv m=>exact key (fun _=>rfl) (fun h=>by simp only[scA,h])| _=>rfl
def lH:PV->Bool
 |.agg _=>true| .tup _=>true| .fn _ _=>true| _=>false
theorem zMW {P:List Nat}{v:PV}(h:lH v=false):scB P v=scA P v:=by cases v <;> first|rfl|cases h
theorem zMV {P:List Nat}{v:PV}(h:lH v=false):scC P v=scA P v:=by cases v <;> first|rfl|cases h
theorem zSP {n:Nat}{v:PV}(h:lH v=false):sc1 n v=sc0 n v:=by cases v <;> first|rfl|cases h
theorem zSN {n:Nat}{v:PV}(h:lH v=false):scr n v=sc0 n v:=by cases v <;> first|rfl|cases h
theorem zYX {n:Nat}{v:PV}(h:lH v=false):rf1 n v=rf0 n v:=by cases v <;> first|rfl|cases h
theorem zYW {n:Nat}{v:PV}(h:lH v=false):xS n v=rf0 n v:=by cases v <;> first|rfl|cases h
theorem o8 (P:List Nat)(v:PV):lH (scA P v)=false:=by
 cases v with
 |ptr m off=>simp only[scA];cases yE m P <;> rfl
 |aptr m s i off=>simp only[scA];cases yE m P <;> rfl
 |osl m s i len=>simp only[scA];cases yE m P <;> rfl
 |mpv m=>simp only[scA];cases yE m P <;> rfl
 |_=>rfl
theorem zKO (n:Nat)(v:PV):lH (sc0 n v)=false:=by
 cases v with
 |ptr m off=>simp only[sc0];cases nqb m n <;> rfl
 |aptr m s i off=>simp only[sc0];cases nqb m n <;> rfl
 |osl m s i len=>simp only[sc0];cases nqb m n <;> rfl
 |mpv m=>simp only[sc0];cases nqb m n <;> rfl
 |_=>rfl
theorem zQ2 {P P':List Nat}(H:∀ m,yE m P=true->yE m P'=true)(v:PV):scB P' (scB P v)=scB P' v:=by
 cases hv:lH v with
 |false=>grind [zMW,o8,zDZ]| true=>cases v <;> first|(cases hv;done)|(simp only[scB];rw[aF _ _ _ (zDZ H)])
theorem zJS {P P':List Nat}(H:∀ m,yE m P=true->yE m P'=true)(v:PV):scC P' (scC P v)=scC P' v:=by
 cases hv:lH v with
 |false=>grind [zMV,o8,zDZ]| true=>cases v <;> first|(cases hv;done)|(simp only[scC];rw[aF _ _ _ (zQ2 H)])
theorem zHR (n:Nat)(P:List Nat)(v:PV):sc0 n (scA P v)=scA (n::P) v:=by
 have e:∀ m,yE m (n::P)=(nqb m n || yE m P):=fun m=>by show (nqb n m || yE m P)=_;rw[zJ0]
 cases v with
 |ptr m off=>grind [scA,sc0]| aptr m s i off=>grind [scA,sc0]| osl m s i len=>grind [scA,sc0]| mpv m=>grind [scA,sc0]| _=>rfl
theorem zVD (n:Nat)(P:List Nat)(v:PV):sc1 n (scB P v)=scB (n::P) v:=by
 cases hv:lH v with
 |false=>grind [zMW,zSP,o8,zHR]| true=>cases v <;> first|(cases hv;done)|(simp only[scB,sc1];rw[aF _ _ _ (zHR n P)])
theorem zNW (n:Nat)(P:List Nat)(v:PV):scr n (scC P v)=scC (n::P) v:=by
 cases hv:lH v with
 |false=>grind [zMV,zSN,o8,zHR]| true=>cases v <;> first|(cases hv;done)|(simp only[scC,scr];rw[aF _ _ _ (zVD n P)])
theorem zAH {P P':List Nat}(H:∀ m,yE m P=yE m P')(v:PV):scA P v=scA P' v:=by
 cases v with
 |ptr m off=>simp only[scA,H]| aptr m s i off=>simp only[scA,H]| osl m s i len=>simp only[scA,H]| mpv m=>simp only[scA,H]| _=>rfl
theorem zPD {P P':List Nat}(H:∀ m,yE m P=yE m P')(v:PV):scB P v=scB P' v:=by
 cases hv:lH v with
 |false=>grind [zMW,zAH]| true=>cases v <;> first|(cases hv;done)|(simp only[scB];rw[pQ _ _ (zAH H)])
theorem dI {P P':List Nat}(H:∀ m,yE m P=yE m P')(v:PV):scC P v=scC P' v:=by
 cases hv:lH v with
 |false=>grind [zMV,zAH]| true=>cases v <;> first|(cases hv;done)|(simp only[scC];rw[pQ _ _ (zPD H)])
theorem zM2 (n:Nat)(v:PV):rf0 n (sc0 n v)=true:=by
 cases v with
 |ptr m off=>grind [sc0,rf0]| aptr m s i off=>grind [sc0,rf0]| osl m s i len=>grind [sc0,rf0]| mpv m=>grind [sc0,rf0]| _=>rfl
theorem lC {f:PV->Bool}{g:PV->PV}(H:∀ v,f (g v)=true):∀ l:List PV,yR f (vG g l)=true
 |[]=>rfl| v::r=>by simp only[vG,yR,H,lC H r];rfl
theorem zYV (n:Nat)(v:PV):rf1 n (sc1 n v)=true:=by
 cases hv:lH v with
 |false=>grind [zSP,zYX,zKO,zM2]| true=>cases v <;> first|(cases hv;done)|exact lC (zM2 n) _
theorem zM1 (n:Nat)(v:PV):xS n (scr n v)=true:=by
 cases hv:lH v with
 |false=>grind [zSN,zYW,zKO,zM2]| true=>cases v <;> first|(cases hv;done)|exact lC (zYV n) _
theorem zLX {n:Nat}(hn:n<1000000)(T:List (Nat×PV))(O:List (Nat×Obj')):yH n ⟨wV (scr n) T,y4 (scr n) (xO O n)⟩=true:=by
 have h1:∀ T:List (Nat×PV),rL n (wV (scr n) T)=true:=by
  intro T;induction T with
  |nil=>rfl| cons a r ih=>grind [wV,rL,zM1]
 have h2:xH n (y4 (scr n) (xO O n))=true:=zA3 hn fun m o hm=>by
  obtain⟨o',q1,q2⟩:=wQ _ hm;refine⟨(wT q1).2,?_⟩;cases o' with
  |box cs=>subst q2;exact lC (zM1 n) cs| arr s e=>subst q2;trivial| log s e=>subst q2;trivial| lent s e=>subst q2;trivial| mp t k=>subst q2;trivial| mat s r q=>subst q2;exact oA (zM1 n) q
 grind [yH]
def scO (P:List Nat):Obj'->Obj':=xY (scC P)
theorem b8 (P:List Nat){l:List (Nat×Obj')}{y:Nat×Obj'}:y∈y4 (scC P) l↔∃ o,(y.1,o)∈l/\y.2=scO P o:=by
 constructor;{intro h;exact wQ (n:=y.1) (o:=y.2) _ h}
 ·(rintro⟨o,h1,h2⟩;have:=rS (scC P) h1;have e:y=(y.1,xY (scC P) o):=by rw[<-show scO P o=xY (scC P) o from rfl,<-h2]);grind
theorem zSO {P:List Nat}{w:World}{S:Nat->Nat->Prop}{β:Bm}{n:Nat}{o:Obj'}(h:ObjAt w S β n o):ObjAt w S β n (scO P o):=ObjAt.map rfl (fun _ _ hx=>nF hx) h
theorem zNX {P:List Nat}{o:Obj'}{i:Nat}(h:jW o i):jW (scO P o) i:=rM h
theorem zGC (f g h:PV->PV)(H:∀ v,f (g v)=h v):∀ l:List (PV×(Unit->Nat)),j7 f (j7 g l)=j7 h l
 |[]=>rfl| (v,k)::r=>by simp only[j7,H,zGC f g h H r]
theorem zCM (f g:PV->PV)(H:∀ v,f v=g v):∀ l:List (PV×(Unit->Nat)),j7 f l=j7 g l
 |[]=>rfl| (v,k)::r=>by simp only[j7,H,zCM f g H r]
theorem zA8 (f g h:PV->PV)(H:∀ v,f (g v)=h v)(o:Obj'):xY f (xY g o)=xY h o:=by
 cases o with
 |box cs=>grind [xY,aF]| mat s r q=>grind [xY,zGC]| _=>rfl
theorem zA9 (f g:PV->PV)(H:∀ v,f v=g v)(o:Obj'):xY f o=xY g o:=by
 cases o with
 |box cs=>simp only[xY];rw[pQ _ _ H]| mat s r q=>simp only[xY];rw[zCM _ _ H]| _=>rfl
theorem zJR {P P':List Nat}(H:∀ m,yE m P=true->yE m P'=true)(o:Obj'):scO P' (scO P o)=scO P' o:=zA8 _ _ _ (zJS H) o
theorem zLM {P P':List Nat}(H:∀ m,yE m P=yE m P'):scO P=scO P':=funext fun o=>zA9 _ _ (dI H) o
theorem nE {P P':List Nat}(H:∀ m,yE m P=yE m P')(o:Obj'):scO P o=scO P' o:=zA9 _ _ (dI H) o
theorem Sim.weak {τ τ':Nat->PV}{objs objs':List (Nat×Obj')}{a:Act}{w:World}{S:Nat->Nat->Prop}{β:Bm}(h:Sim w0 S0 K0 N τ objs a w S β)(hτ:∀ t v,Rep w S β v (τ t)->Rep w S β v (τ' t))(hnd:(objs'.map Prod.fst).Nodup) (ho:∀ n o',(n,o')∈objs'->∃ o,(n,o)∈objs/\(ObjAt w S β n o->ObjAt w S β n o')/\(∀ i,jW o i->jW o' i)/\∀ b,Own β n o' b->Own β n o b):Sim w0 S0 K0 N τ' objs' a w S β where
 dfr:=h.dfr
 sz:=h.sz
 ld:=h.ld
 tmp t:=hτ t _ (h.tmp t)
 obj:=⟨hnd,fun n o hm=>by obtain⟨o1,q1,q2,_⟩:=ho n o hm;exact q2 (h.obj.at_ n o1 q1),
  fun n o b hm hβ=>by obtain⟨o1,q1,_,q3,q4⟩:=ho n o hm;exact⟨fun i hS=>q3 i ((h.obj.un n o1 b q1 (q4 b hβ)).1 i hS),(h.obj.un n o1 b q1 (q4 b hβ)).2⟩,
  fun n o m o' b hm hm' hβ hβ'=>by obtain⟨x,q1,_,_,g1⟩:=ho n o hm;obtain⟨y,q2,_,_,g2⟩:=ho m o' hm';exact h.obj.inj _ _ _ _ b q1 q2 (g1 b hβ) (g2 b hβ')⟩
 own n o b hm hβ:=by obtain⟨x,q1,_,_,g1⟩:=ho n o hm;exact h.own n x b q1 (g1 b hβ)
 keep n o hm hb:=by obtain⟨x,q1,_⟩:=ho n o hm;exact h.keep n x q1 hb
def PL (B:Nat->Bool):List (Nat×Nat)->List Nat
 |[]=>[]| (e,m)::r=>(match B e with|true=>m::PL B r|false=>PL B r)
theorem gX:∀ {l:List Nat} {n:Nat},yE n l=true↔n∈l:=fun {l n}=>⟨vE,rQ⟩
theorem dB {B:Nat->Bool}{m:Nat}:∀ {es:List (Nat×Nat)},m∈PL B es↔∃ e,(e,m)∈es/\B e=true
 |[]=>by simp[PL]| (e,x)::r=>by
  unfold PL;cases hb:B e with
  |true =>
   simp only[yI,dB (es:=r)];grind
  |false =>
   simp only[dB (es:=r),yI];grind
theorem zAT {an:List Nat}{i m:Nat}:∀ {es:List (Nat×Nat)},m∈fF an i es↔∃ e,(e,m)∈es/\(an.getD e 0).testBit i=false
 |[]=>by simp[fF]| (e,x)::r=>by
  unfold fF;cases hb:(an.getD e 0).testBit i with
  |true =>
   simp only[zAT (es:=r),yI];grind
  |false =>
   simp only[yI,zAT (es:=r)];grind
theorem qR (P:List Nat):∀ (T:List (Nat×PV)) (t:Nat),zB (sA P T) t=(match yE t P with|true=>zB T t|false=>scC P (zB T t))
 |[],t=>by grind [sA,zB,scC,scA]| (u,v)::r,t=>by
  simp only[sA,zB];cases hu:nqb u t with
  |true=>grind [yY]| false=>exact qR P r t
inductive ApStep (ops:List Oper) (es:List (Nat×Nat)) (an:List Nat) (lim:List (Nat×Obj')) (i:Nat) (o:Oper) (τ:Nat->PV) (pv:PV) (O O':List (Nat×Obj')):Prop
 |app {n s o' l' x x0} (he:yQ es i=some n) (hd:o.dst=some n) (hg:o.guard=none) (h0:yG O n=some x0) (hpv:pv=.osl n s o' l') (hx0:∀ P,scO P x0=x0) (hx:∀ P,scO P x=x)
   (hfix:∀ t,t∈jC ops o->(∃ a b c,τ t=.osl n a b c)\/∀ P,scC P (τ t)=τ t)
   (hgo:∀ (T':List (Nat×PV)) (O1:List (Nat×Obj')),(∀ t,t∈jC ops o->zB T' t=τ t)->yG O1 n=some x0->yH n ⟨wV (scr n) T',y4 (scr n) (xO O1 n)⟩=true ->
    bH o ⟨T',O1⟩ (fun p=>zB p.tmps=upd (fun t=>scr n (zB T' t)) (some n) pv/\p.objs=y4 (scr n) (xO O1 n)++[(n,x)])) (hO:O'=setO O n x)
 |pure (he:yQ es i=none) (h:vH false (y4 (scC (fF an i es)) lim) ops o (fun t=>scC (fF an i es) (τ t)) pv) (hO:O'=O)
theorem oS {v:PV}(h:jD v=true):v=.nil\/v=.emp:=by cases v <;> first|exact .inl rfl|exact .inr rfl|exact absurd h (by simp[jD])
theorem zV5 {ops:List Oper}{o:Oper}{n:Nat}{T:List (Nat×PV)}{O:List (Nat×Obj')}{K:PV->Obj'->Prop}(h:effA o n T O K):∃ pv s o' l' x x0,K pv x/\o.dst=some n/\o.guard=none/\yG O n=some x0/\pv=.osl n s o' l'/\(∀ P,scO P x0=x0)/\(∀ P,scO P x=x) /\ (∀ t,t∈jC ops o->(∃ a b c,zB T t=.osl n a b c)\/∀ P,scC P (zB T t)=zB T t) /\ ∀ (T':List (Nat×PV)) (O1:List (Nat×Obj')),(∀ t,t∈jC ops o->zB T' t=zB T t)->yG O1 n=some x0->yH n ⟨wV (scr n) T',y4 (scr n) (xO O1 n)⟩=true ->bH o ⟨T',O1⟩ (fun p=>zB p.tmps=upd (fun t=>scr n (zB T' t)) (some n) pv/\p.objs=y4 (scr n) (xO O1 n)++[(n,x)]):=by
 unfold effA at h;cases hg:o.guard with
 |some g=>grind| none =>
 rw[hg] at h;simp only at h;split at h
 ·rename_i c hop;split at h
  ·rename_i hcl;split at h
   ·rename_i b x t tx d hargs htys hd;split at h
    ·(rename_i hc;simp only[yT] at hc;have hdn:=yY hc.2;subst hdn;obtain⟨s,bb,z,xs,lg,els,h1,h2,h3,h5,hcase⟩:=h.h;have hmk:∀ (e:Unit->List (List D)) (P:List Nat),scO P (gY lg s e)=gY lg s e:=fun e P=>by cases lg <;> rfl);have hlk:∀ u,u∈jC ops o->(b=.tmp u\/x=.tmp u):=fun u hu=>by
      (unfold jC at hu;rw[hg] at hu;simp only[uU] at hu;rw[List.mem_filterMap] at hu;obtain⟨y,hy1,hy2⟩:=hu;have hy3:y=b\/y=x:=by grind [Op.operands,Call.operands]);grind
     rcases hcase with⟨o',len,h4,h6,h7,h8,h9⟩|⟨h4,h8,h9⟩
     ·refine⟨_,s,_,_,_,_,h9,hd,rfl,h5,rfl,hmk _,hmk _,fun u hu=>?_,fun T' O1 hT hO hfr=>?_⟩;{rcases hlk u hu with e|e;{rw[e] at h4;exact .inl ⟨_,_,_,h4⟩};{rw[e] at h2;rcases h2 with h2|⟨h2,_⟩;{exact .inr fun P=>by rw[show zB T u=_ from h2];rfl};{exact .inr fun P=>by rw[show zB T u=_ from h2];rfl}}}
      ·(have hev:=oN hg hT;have e1:ev (zB T') b=.osl d s o' len:=by grind [Op.operands,Call.operands]);have e2:ev (zB T') x=ev (zB T) x:=hev x (by grind [Op.operands,Call.operands])
       unfold bH;simp only[hop,hcl];rw[hargs,htys];simp only[hc.1];refine⟨.inl ⟨⟨T',O1⟩,d,d,s,bb,z,xs,.refl _,hd,h1,.inl (by grind),h3,.inr ⟨lg,d,o',len,els,e1,hO,h6,h7,h8,hfr,?_,rfl⟩⟩⟩;grind [cS,upd,kU,nC]
     ·refine⟨_,s,_,_,_,_,h9,hd,rfl,h5,rfl,hmk _,fun _=>rfl,fun u hu=>?_,fun T' O1 hT hO hfr=>?_⟩;{rcases hlk u hu with e|e;{rw[e] at h4;rcases oS h4 with h4|h4;{exact .inr fun P=>by rw[show zB T u=_ from h4];rfl};{exact .inr fun P=>by rw[show zB T u=_ from h4];rfl}};{rw[e] at h2;rcases h2 with h2|⟨h2,_⟩;{exact .inr fun P=>by rw[show zB T u=_ from h2];rfl};{exact .inr fun P=>by rw[show zB T u=_ from h2];rfl}}}
      ·(have hev:=oN hg hT;have e1:jD (ev (zB T') b)=true:=by grind [Op.operands,Call.operands]);have e2:ev (zB T') x=ev (zB T) x:=hev x (by grind [Op.operands,Call.operands])
       have hsc:∀ (y:Operand),(jD (ev (zB T') y)=true\/∃ a,ev (zB T') y=.sl a)->ev (zB (wV (scr d) T')) y=ev (zB T') y:=fun y hy=>by
        cases y with
        |tmp u =>
         have e:ev (zB (wV (scr d) T')) (.tmp u)=scr d (ev (zB T') (.tmp u)):=kU _ (nC d) _ _;rw[e];rcases hy with hy|⟨a,hy⟩;{rcases oS hy with hy|hy <;> rw[hy] <;> rfl};{rw[hy];rfl}
        |_=>rfl
       (have e3:jD (ev (zB (wV (scr d) T')) b)=true:=by grind);have e4:ev (zB (wV (scr d) T')) x=ev (zB T) x:=by grind [jD]
       unfold bH;simp only[hop,hcl];rw[hargs,htys];simp only[hc.1];refine⟨.inl ⟨⟨wV (scr d) T',y4 (scr d) (xO O1 d)⟩,d,d,s,bb,z,xs,.drop d,hd,h1,.inl (by grind),h3,.inl ⟨e3,h8,hfr,?_,rfl⟩⟩⟩;grind [cS,upd,kU,nC]
    grind
   grind
  ·rename_i g hcl;split at h
   ·rename_i d hd;split at h
    ·rename_i hc;have hdn:=yY hc;subst hdn;obtain⟨f,caps,hn,cargs,m,k,s,els,els',o',l',h1,h2,h3,h4,hm,hkd,h5,h6,h7,h8⟩:=h.h;have hlk:∀ u,u∈jC ops o->.tmp u∈c.args.toList:=fun u hu=>by
      (unfold jC at hu;rw[hg] at hu;simp only[uU] at hu;rw[List.mem_filterMap] at hu;obtain⟨y,hy1,hy2⟩:=hu;have:y=.tmp u:=by grind);subst this
      rw[hop] at hy1;simp only[Op.operands,Call.operands,hcl,Array.toList_append,vX] at hy1;rcases hy1 with hy1|hy1;{simp at hy1;subst hy1;cases h2};omega
     have hfx:∀ (l:List Operand) (u:Nat),Operand.tmp u∈l->yR (fixP d) (evs (ev (zB T)) l)=true->fixP d (zB T u)=true:=by
      intro l u;induction l with
      |nil=>grind| cons y l ih =>
       intro h q;simp only[evs,yR,yT] at q;rcases yI.1 h with e|h;{subst e;exact q.1};grind
     refine⟨_,s,_,_,_,_,h8,hd,rfl,h5,rfl,fun _=>rfl,fun _=>rfl,fun u hu=>?_,fun T' O1 hT hO hfr=>?_⟩
     ·have:=hfx _ u (hlk u hu) h7;generalize zB T u=v at this ⊢;cases v with
      |osl m' a b c =>
       have e:=yY (show nqb m' d=true from this);grind
      |agg _=>cases this
      |tup _=>cases this
      |fn _ _=>cases this
      |ptr _ _=>cases this
      |aptr _ _ _ _=>cases this
      |mpv _=>cases this
      |_=>exact .inr fun P=>rfl
     ·(have hev:=oN hg hT;have e1:ev (zB T') g=.fn f caps:=by grind [Op.operands,Call.operands]);have e2:evs (ev (zB T')) c.args.toList=evs (ev (zB T)) c.args.toList:=r9 fun y hy=>hev y (by grind [Op.operands,Call.operands])
      unfold bH;simp only[hop,hcl];refine⟨⟨T',O1⟩,.refl _,f,caps,e1,.inr ⟨hn,cargs,[],[(m,.arr s els)],_,[],[(k,.arr s els')],by grind,h4,⟨⟨by rw[hm];exact hO,rfl⟩,trivial⟩,rfl,rfl,rfl,rfl,?_,h6,rfl,?_,?_⟩⟩;{show (yH (hn k) (iG hn [(m,.arr s els)] ⟨T',O1⟩)&&true)=true;rw[zMK,hkd];show yH d ⟨wV (scr (hn m)) T',y4 (scr (hn m)) (xO O1 (hn m))⟩=true;grind};{show nmIn [k] (.osl k s o' l')=true;simp[nmIn,nm0,yE]}
      ·have e3:nJ hn [(m,.arr s els)] [] [(k,.arr s els')] ⟨T',O1⟩=⟨wV (scr d) T',y4 (scr d) (xO O1 d)++[(d,.arr s els')]⟩:=by show (⟨wV (scr (hn m)) T',y4 (scr (hn m)) (xO O1 (hn m))++[(hn k,.arr s els')]⟩:PS)=_;grind
       (rw[e3,hd];have e4:ren hn (.osl k s o' l')=.osl d s o' l':=by show PV.osl (hn k) s o' l'=_;rw[hkd]);rw[e4]
       refine⟨?_,rfl⟩;funext t;show zB (v7 (wV (scr d) T') d _) t=_;grind [cS,upd,kU,nC]
    grind
   grind
  grind
 grind
theorem zTO {ops:List Oper}{es:List (Nat×Nat)}{an:List Nat}{lim:List (Nat×Obj')}{K:List (Nat×PV)->List (Nat×Obj')->Prop}:∀ (l:List Oper) (i:Nat) {T:List (Nat×PV)} {O:List (Nat×Obj')},apWp ops es an lim l i T O K ->∃ (pvs:List PV) (Ob:Nat->List (Nat×Obj')) (T':List (Nat×PV)),pvs.length=l.length/\Ob 0=O/\K T' (Ob l.length)/\zB T'=v6 l pvs (zB T) /\ ∀ j o pv,l[j]?=some o->pvs[j]?=some pv->ApStep ops es an lim (i+j) o (v6 (l.take j) (pvs.take j) (zB T)) pv (Ob j) (Ob (j+1))
 |[],i,T,O,h=>⟨[],fun _=>O,T,rfl,rfl,h,rfl,fun j o pv h=>by simp at h⟩| o::r,i,T,O,h=>by
  obtain⟨pv,O1,T1,h1,ht1,hst⟩:∃ pv O1 T1,apWp ops es an lim r (i+1) T1 O1 K/\zB T1=upd (zB T) o.dst pv/\ApStep ops es an lim i o (zB T) pv O O1:=by
   unfold apWp at h;cases he:yQ es i with
   |some n =>
    rw[he] at h;simp only at h;obtain⟨pv,s,o',l',x,x0,q1,q2,q3,q4,q5,q6,q7,q8,q9⟩:=zV5 (ops:=ops) h;exact⟨pv,_,_,q1,xE _ _ _,.app he q2 q3 q4 q5 q6 q7 q8 q9 rfl⟩
   |none =>
    rw[he] at h;simp only at h;have hm:zB (wV (scC (fF an i es)) T)=fun t=>scC (fF an i es) (zB T t):=funext fun t=>kU _ rfl _ _;rw[hm] at h;rcases tS h with⟨pv,q1,q2⟩|⟨q1,q2⟩;{obtain⟨pv',p,g1,g2,g3,g4⟩:=t9 q1;exact⟨pv',O,p.tmps,g2,g4,.pure he (q2 pv' g1) rfl⟩};{exact⟨.tup [],O,_,q1,xE _ _ _,.pure he q2 rfl⟩}
  obtain⟨pvs,Ob,T',g1,g2,g3,g4,g5⟩:=zTO r (i+1) h1;refine⟨pv::pvs,fun j=>match j with|0=>O|j+1=>Ob j,T',by simp[g1],rfl,by omega,by rw[g4,ht1];rfl,fun j o' pv' hj hp=>?_⟩;cases j with
  |zero =>
   simp only[lU,p7] at hj hp;subst hj hp;show ApStep ops es an lim i o _ pv O (Ob 0);rw[g2];exact hst
  |succ j =>
   simp only[tH] at hj hp;have:=g5 j o' pv' hj hp;rw[ht1] at this;rw[show i+(j+1)=i+1+j by omega];exact this
theorem zCO:∀ {es:List (Nat×Nat)} {i m:Nat},yQ es i=none->(i,m)∉es
 |(a,b)::r,i,m,h,hm=>by
  unfold yQ at h;cases ha:nqb a i with
  |true=>grind| false =>
   rw[ha] at h;rcases yI.1 hm with e|hm;{simp_all};{exact zCO h hm}
 |[],i,m,_,hm=>by grind
theorem tT:∀ {es:List (Nat×Nat)} {m:Nat},m∈kL es↔∃ e,(e,m)∈es
 |[],m=>by simp[kL]| (e,x)::r,m=>by
  simp only[kL,yI,tT (es:=r)];constructor
  ·rintro (rfl|⟨e',h⟩)
   all_goals grind
  grind
def AMem (es:List (Nat×Nat)) (O0:List (Nat×Obj')) (X:Nat->Obj') (B:Nat->Bool) (y:Nat×Obj'):Prop :=
 ∃ o,(y.1,o)∈O0/\y.2=scO (PL B es) (match yE y.1 (PL B es) with|true=>X y.1|false=>o)
theorem i6 {es:List (Nat×Nat)}{O0:List (Nat×Obj')}{X:Nat->Obj'}{B B':Nat->Bool}(h:∀ m,yE m (PL B es)=yE m (PL B' es))(y:Nat×Obj'):AMem es O0 X B y↔AMem es O0 X B' y:=by grind [AMem,nE]
theorem zXB {es:List (Nat×Nat)}{B B':Nat->Bool}(h:∀ e m,(e,m)∈es->B e=B' e)(m:Nat):yE m (PL B es)=yE m (PL B' es):=by rw[bQ,gX,gX,dB,dB];grind
theorem zZY {es:List (Nat×Nat)}{B B':Nat->Bool}{i n:Nat}(hi:(i,n)∈es)(hu:∀ m,(i,m)∈es->m=n)(hB:∀ e,B' e=(B e || nqb e i))(m:Nat):yE m (PL B' es)=yE m (n::PL B es):=by
 rw[bQ,gX,gX,dB,yI,dB];constructor;{rintro⟨e,h1,h2⟩;rw[hB] at h2;simp only[alT1] at h2;grind [yY]}
 ·rintro (rfl|⟨e,h1,h2⟩)
  all_goals grind [nqb_self]
def scrO (n:Nat):Obj'->Obj':=xY (scr n)
theorem zZP {ops:List Oper}{k:Nat}(D:DrawOk ops k){Q:Exit->Act->World->Prop}{K:PS->Prop}(hdst:∀ o,o∈ops->pB N o=true)(hk:∀ ps' a' w' S' β',K ps'->Sim w0 S0 K0 N (zB ps'.tmps) ps'.objs a' w' S' β'->Q .normal a' w') {T0 T2:List (Nat×PV)} {O0 O2:List (Nat×Obj')} {pvs:List PV} {es:List (Nat×Nat)} {X:Nat->Obj'} {Ob:Nat->List (Nat×Obj')} (hkl:k<=ops.length) (hlen:pvs.length=(ops.take k).length) (hK:qP ops (ops.drop k) ⟨sA (kL es) T2,O2⟩ K) (ht2:zB T2=v6 (ops.take k) pvs (zB T0)) (hO2:∀ y,y∈O2↔AMem es O0 X (fun j=>decide (j<k)) y) (hnd2:(O2.map Prod.fst).Nodup) (hes:∀ e m,(e,m)∈es->e<k/\m<1000000/\yQ es e=some m) (hinj:∀ {i j n},yQ es i=some n->yQ es j=some n->i=j) (hst:∀ i o pv,(ops.take k)[i]?=some o->pvs[i]?=some pv->ApStep ops es (anc ops) (j9 (kL es) O0) i o (v6 ((ops.take k).take i) (pvs.take i) (zB T0)) pv (Ob i) (Ob (i+1))) (h0:∀ i n x0,i<k->yQ es i=some n->yG (Ob i) n=some x0->(n,x0)∈O0) (hX:∀ i n x x0,i<k->yQ es i=some n->yG (Ob i) n=some x0->Ob (i+1)=setO (Ob i) n x->X n=x) (hnd0:(O0.map Prod.fst).Nodup):∀ (fuel:Nat) (L:Array Bool) {a:Act} {w:World} {S:Nat->Nat->Prop} {β:Bm} {G:List (Nat×PV)} {objs':List (Nat×Obj')},L.size=ops.length->(∀ j,j<ops.length->k<=j->¬Lst L j)->(∀ i o,ops[i]?=some o->Lst L i->sJ (Lst L) o)->unl L ops.length<=fuel ->Sim w0 S0 K0 N (zB (sA (PL (fun i=>L.getD i false) es) G)) objs' a w S β->(∀ y,y∈objs'↔AMem es O0 X (fun i=>L.getD i false) y)->At ops k pvs (zB T0) (Lst L) (zB G)->wpAny Pg .any ops.toArray Q fuel L a w:=by
 have hpl:k<=pvs.length:=by grind
 have htx:At ops k pvs (zB T0) (fun j=>j<k) (zB T2):=by have htx:=At.text (τ0:=zB T0) D hlen k (zZ _);grind
 have hall1:∀ {L:Array Bool},(∀ j,j<k->Lst L j)->(∀ m,yE m (PL (fun i=>L.getD i false) es)=yE m (kL es))/\∀ m,yE m (PL (fun i=>L.getD i false) es)=yE m (PL (fun j=>decide (j<k)) es):=by intro L hfull;refine⟨fun m=>?_,zXB fun e m he=>?_⟩;{rw[bQ,gX,gX,dB,tT];exact⟨fun⟨e,h1,_⟩=>⟨e,h1⟩,fun⟨e,h1⟩=>⟨e,h1,hfull e (hes e m h1).1⟩⟩};grind [Lst]
 have hendT:∀ {G:List (Nat×PV)} {L:Array Bool},(∀ j,j<k->Lst L j)->At ops k pvs (zB T0) (Lst L) (zB G)->zB (sA (PL (fun i=>L.getD i false) es) G)=zB (sA (kL es) T2):=by
  (intro G L hfull hat;have hg:zB G=zB T2:=by funext t;exact hat.same D hpl htx fun j o hj ho hd=>.inl ⟨hfull j hj,hj⟩);funext t;rw[qR,qR,hg,(hall1 hfull).1,dI (hall1 hfull).1]
 intro fuel;induction fuel with
 |zero =>
  (intro L a w S β G objs' hsz hge hcl hun h hin hat;have hall:=tO (Nat.le_zero.1 hun);have hall':∀ j,j<ops.length->Lst L j:=fun j hj=>by have h1:=hall j hj;rw[xQ oM true false] at h1;exact h1);have hkn:ops.length<=k:=by rcases uQ k ops.length with h'|h';{grind};omega
  have hfull:∀ j,j<k->Lst L j:=fun j hj=>hall' j oM;refine zE3 D hdst hk 0 k L (ps:=⟨sA (kL es) T2,O2⟩) (S:=S) (β:=β) (zZ _) hkl hsz (fun j hj=>⟨fun _=>by omega,fun _=>hall' j hj⟩) oM ?_ hK;show Sim w0 S0 K0 N (zB (sA (kL es) T2)) O2 a w S β;rw[<-hendT hfull hat];exact h.perm (fun x=>by rw[hO2 x,hin x,i6 (hall1 hfull).2 x]) hnd2
 |succ fuel ih =>
  intro L a w S β G objs' hsz hge hcl hun h hin hat;by_cases hfull:∀ j,j<k->Lst L j
  ·refine zE3 D hdst hk (fuel+1) k L (ps:=⟨sA (kL es) T2,O2⟩) (S:=S) (β:=β) (zZ _) hkl hsz (fun j hj=>⟨fun hl=>?_,fun hj'=>hfull j hj'⟩) ?_ ?_ hK;{rcases uQ j k with h'|h';{exact h'};grind}
   ·have cnt:∀ n,k<=n->n<=ops.length->n<=k+unl L n:=by
     intro n;induction n with
     |zero=>omega| succ n ihn =>
      intro hkn hn;simp only[unl];by_cases hk0:k=n+1;{omega}
      ·(have:=ihn oM oM;have hnl:=hge n oM oM;have:L.getD n true≠true:=by rw[xQ oM true false];exact hnl);grind
    grind
   {show Sim w0 S0 K0 N (zB (sA (kL es) T2)) O2 a w S β;rw[<-hendT hfull hat];exact h.perm (fun x=>by rw[hO2 x,hin x,i6 (hall1 hfull).2 x]) hnd2}
  ·have hun0:∃ j,j<k/\¬Lst L j/\∀ i,i<j->Lst L i:=by
    have:∀ n,n<=k->(∀ i,i<n->Lst L i)\/∃ j,j<k/\¬Lst L j/\∀ i,i<j->Lst L i:=by
     intro n;induction n with
     |zero=>grind| succ n ihn =>
      intro hn;rcases ihn oM with h1|h1;{by_cases hx:Lst L n;{refine .inl fun i hi=>?_;by_cases e:i=n;{grind};grind};{exact .inr ⟨n,by omega,hx,h1⟩}};{exact .inr h1}
    rcases this k (zZ _) with h1|h1;{grind};omega
   obtain⟨j0,hj0,hnj0,hbelow⟩:=hun0;refine⟨fun hr=>?_,fun i hi=>?_⟩
   ·(exfalso;have hlt:j0<ops.length:=by omega);have hin:j0∈Region.ready .any ops.toArray L:=by
     refine mem_ready.2 ⟨?_,ops[j0],by simp[hlt],fun e he hb=>?_⟩
     ·rw[xQ oM true false];cases hx:L.getD j0 false with
      |false=>rfl| true=>exact absurd hx hnj0
     {exact hbelow e.on (D.back j0 _ (qI hlt) e (by grind) hb)}
    grind
   ·(obtain⟨h1,o,h2,h3⟩:=mem_ready.1 hi;have ho:ops[i]?=some o:=by simpa using h2);have hlt:i<ops.length:=(wH.1 ho).1
    have hE:sJ (Lst L) o:=fun e he hb=>h3 e (by simpa using he) hb;have hik:i<k:=by rcases uQ i k with h'|h';{exact h'};{exact absurd (xV hcl ho hE (D.rest i j0 hlt h' oM)) hnj0}
    (have hp:pvs[i]?=some pvs[i]:=qI oM;have hdo:=sE (hdst o (yA ho));have hsize:i<L.size:=by omega);have hnl:¬Lst L i:=fun hl=>by rw[xQ oM true false] at h1;unfold Lst at hl;grind
    have hagree:∀ t,t∈jC ops o->v6 ((ops.take k).take i) (pvs.take i) (zB T0) t=zB G t:=fun t ht=>At.same D hpl (At.text D hlen i oM) hat fun j oj hj hoj hd=>by rcases D.look i o t j oj hik hj ho hoj ht hd with⟨q1,q2⟩|⟨q1,q2⟩;{exact .inl ⟨q1,xV hcl ho hE q2⟩};{refine .inr ⟨by omega,fun hl=>?_⟩;have:=xV hcl hoj (hcl j oj hoj hl) q2;grind}
    (have hLs:∀ j,Lst (L.setIfInBounds i true) j↔Lst L j\/j=i:=w8 hsize;have hB:∀ e,(L.setIfInBounds i true).getD e false=(L.getD e false || nqb e i):=fun e=>by have:=hLs e;unfold Lst at this;rw[bQ,this,alT1,nqb_iff]);have hnext:∀ {a':Act} {w':World} {S':Nat->Nat->Prop} {β':Bm} {G':List (Nat×PV)} {objs3:List (Nat×Obj')},zB G'=upd (zB G) o.dst pvs[i]->Sim w0 S0 K0 N (zB (sA (PL (fun e=>(L.setIfInBounds i true).getD e false) es) G')) objs3 a' w' S' β' ->
      (∀ y,y∈objs3↔AMem es O0 X (fun e=>(L.setIfInBounds i true).getD e false) y)->wpAny Pg .any ops.toArray Q fuel (L.setIfInBounds i true) a' w':=by
     intro a' w' S' β' G' objs3 hT hsim g1;refine ih (L.setIfInBounds i true) (by simpa using hsz) (fun j hj hkj hl=>?_) (fun j oj hoj hl=>?_) ?_ hsim g1 (by rw[hT];exact hat.step D hik ho hp fun j=>w8 hsize j);{rcases (w8 hsize j).1 hl with hl|hl;{exact hge j hj hkj hl};{omega}};{intro e he hb;rw[w8 hsize];rcases (w8 hsize j).1 hl with hl|hl;{exact .inl (hcl j oj hoj hl e he hb)};{subst hl;rw[ho] at hoj;cases hoj;exact .inl (hE e he hb)}};{have:=eH h1 hlt;omega}
    have hG':zB (put ⟨G,[]⟩ o.dst pvs[i]).tmps=upd (zB G) o.dst pvs[i]:=xE _ _ _;have hlist:∀ e m,(e,m)∈es->L.getD e false=true->∃ oe,ops[e]?=some oe/\oe.dst=some m/\∃ s a b,zB G m=.osl m s a b:=fun e m he hle=>by
     obtain⟨q1,q2,q3⟩:=hes e m he;have hoe:ops[e]?=some ops[e]:=qI oM;have hpe:pvs[e]?=some pvs[e]:=qI oM;cases hst e ops[e] pvs[e] (by rw[jY q1];exact hoe) hpe with
     |pure he' _ _=>rw[he'] at q3;cases q3
     |app he' hd hg h0' hpv _ _ _ _ _ =>
      rw[he'] at q3;cases q3;exact⟨_,hoe,hd,_,_,_,by rw[hat.hit e _ _ _ q1 hle hoe hpe hd,hpv]⟩
    have hPn:∀ n,yQ es i=some n->yE n (PL (fun e=>L.getD e false) es)=false:=fun n hn=>by
     cases hx:yE n (PL (fun e=>L.getD e false) es) with
     |false=>rfl| true =>
      obtain⟨e,q1,q2⟩:=dB.1 (vE hx);have:=hinj (hes e n q1).2.2 hn;subst this;exact absurd q2 hnl
    have hstep:=hst i o pvs[i] (by rw[jY hik];exact ho) hp;generalize hPP:PL (fun e=>L.getD e false) es=P at *
    cases hstep with
    | @app n s o' l' x x0 he hd hg hget hpv hx0 hx hfix hgo hO =>
     (have hXx:X n=x:=hX i n x x0 hik he hget hO;have hin0:(n,x0)∈O0:=h0 i n x0 hik he hget;have hnP:=hPn n he;have hino:(n,x0)∈objs':=by rw[hin];refine⟨x0,hin0,?_⟩;show x0=scO (PL _ es) (match yE n (PL _ es) with|true=>X n|false=>x0);rw[hPP,hnP];exact (hx0 P).symm);have hgetr:yG objs' n=some x0:=vW h.obj.nd hino;have hfixr:∀ t,t∈jC ops o->zB (sA P G) t=v6 ((ops.take k).take i) (pvs.take i) (zB T0) t:=fun t ht=>by
      rw[qR,hagree t ht];cases hm:yE t P with
      |true=>rfl| false =>
       rw[<-hagree t ht];rcases hfix t ht with⟨a1,b1,c1,e⟩|e;{rw[e];simp only[scC,scA,hnP]};{exact e P}
     (have hmn:=(hes i n (jP he)).2.1;have hs0:=hgo (sA P G) objs' hfixr hgetr (zLX hmn _ _);have hPL:∀ m,yE m (PL (fun e=>(L.setIfInBounds i true).getD e false) es)=yE m (n::P):=fun m=>by rw[<-hPP];exact zZY (jP he) (fun m' hm'=>by have:=(hes i m' hm').2.2;rw[he] at this;cases this;rfl) hB m);refine dW ho (.inl ⟨by simp[Region.wanted,hg],dM (ps:=⟨sA P G,objs'⟩) h hs0 hdo fun ps' a' w' S' β' hK hsim=>?_⟩);obtain⟨hK1,hK2⟩:=hK;rw[hK2] at hsim;have hTT:zB ps'.tmps=zB (sA (PL (fun e=>(L.setIfInBounds i true).getD e false) es) (put ⟨G,[]⟩ o.dst pvs[i]).tmps):=by
      (rw[hK1];funext t;rw[qR,hG',hd,hPL t];show (if t=n then pvs[i] else scr n (zB (sA P G) t))=match nqb n t || yE t P with|true=>(if t=n then pvs[i] else zB G t)|false=>scC _ (if t=n then pvs[i] else zB G t));by_cases htn:t=n
      {subst htn;rw[nqb_self,if_pos rfl,if_pos rfl];rfl}
      ·have:nqb n t=false:=by
        cases hx:nqb n t with
        |false=>rfl| true=>exact absurd (yY hx).symm htn
       rw[this,sI,if_neg htn,if_neg htn,qR];cases hm:yE t P with
       |true =>
        rw[<-hPP] at hm;obtain⟨e,q1,q2⟩:=dB.1 (vE hm);obtain⟨oe,_,_,s1,a1,b1,e1⟩:=hlist e t q1 q2;show scr n (zB G t)=zB G t;rw[e1];simp only[scr,sc0];rw[show nqb t n=false by rw[zJ0];exact this]
       |false =>
        show scr n (scC P (zB G t))=scC _ (zB G t);rw[zNW];exact (dI hPL _).symm
     (rw[hTT] at hsim;refine hnext hG' hsim fun y=>?_;have hmemo:∀ z:Nat×Obj',z∈y4 (scr n) (xO objs' n)↔∃ o1,(z.1,o1)∈objs'/\z.1≠n/\z.2=scrO n o1:=fun z=>by constructor;{intro hz;obtain⟨o1,q1,q2⟩:=wQ (n:=z.1) (o:=z.2) _ hz;obtain⟨q3,q4⟩:=wT q1;exact⟨o1,q3,q4,q2⟩};{rintro⟨o1,q1,q2,q3⟩;have q4:=rT q1 q2;have:(z.1,scrO n o1)∈y4 (scr n) (xO objs' n):=rS (scr n) q4;rw[<-q3] at this;exact this});rw[vX,vL,hmemo];unfold AMem;have hsc:∀ o1:Obj',scrO n (scO P o1)=scO (n::P) o1:=fun o1=>zA8 _ _ _ (zNW n P) o1;constructor
     ·rintro (⟨o1,q1,q2,q3⟩|q)
      ·rw[hin] at q1;obtain⟨o2,q4,q5⟩:=q1;simp only at q4 q5;refine⟨o2,q4,?_⟩;rw[hPP] at q5;rw[q3,q5,hsc,nE hPL,hPL];show _=scO (n::P) (match nqb n y.1 || yE y.1 P with|true=>X y.1|false=>o2);rw[show nqb n y.1=false by
        cases hx:nqb n y.1 with
        |false=>rfl| true=>exact absurd (yY hx).symm q2]
       rfl
      {subst q;refine⟨x0,hin0,?_⟩;rw[hPL,nE hPL];show x=scO (n::P) (match nqb n n || yE n P with|true=>X n|false=>x0);rw[nqb_self,zLF];show x=scO (n::P) (X n);rw[hXx,hx]}
     ·rintro⟨o2,q4,q5⟩;rw[hPL,nE hPL] at q5;by_cases hy:y.1=n;{right;have q6:y.2=scO (n::P) (match nqb n y.1 || yE y.1 P with|true=>X y.1|false=>o2):=q5;rw[hy,nqb_self,zLF] at q6;have q7:y.2=scO (n::P) (X n):=q6;rw[hXx,hx] at q7;cases y;simp only at hy q7;rw[hy,q7]}
      ·left;have hne:nqb n y.1=false:=by
        cases hx:nqb n y.1 with
        |false=>rfl| true=>exact absurd (yY hx).symm hy
       have q6:y.2=scO (n::P) (match nqb n y.1 || yE y.1 P with|true=>X y.1|false=>o2):=q5;rw[hne,sI] at q6;refine⟨scO P (match yE y.1 P with|true=>X y.1|false=>o2),?_,hy,?_⟩;{rw[hin];exact⟨o2,q4,by rw[hPP]⟩};{rw[q6,hsc]}
    |pure he hs1 hO =>
     have hPL:∀ m,yE m (PL (fun e=>(L.setIfInBounds i true).getD e false) es)=yE m P:=fun m=>by
      rw[<-hPP];refine zXB (fun e m' hm'=>?_) m;rw[hB];have:nqb e i=false:=by
       cases hx:nqb e i with
       |false=>rfl| true=>have:=yY hx;subst this;exact absurd hm' (zCO he)
      rw[this,Bool.or_false]
     have hsub:∀ m,yE m P=true->yE m (fF (anc ops) i es)=true:=fun m hm=>by
      rw[<-hPP] at hm;obtain⟨e,q1,q2⟩:=dB.1 (vE hm);refine rQ (zAT.2 ⟨e,q1,?_⟩);cases hx:((anc ops).getD e 0).testBit i with
      |false=>rfl| true =>
       obtain⟨oe,hoe,_⟩:=hlist e m q1 q2;exact absurd (xV hcl hoe (hcl e oe hoe q2) hx) hnl
     have hweak:∀ t v,Rep w S β v (zB (sA P G) t)->Rep w S β v (scC (fF (anc ops) i es) (zB G t)):=fun t v hr=>by
      rw[qR] at hr;cases hm:yE t P with
      |true=>rw[hm] at hr;exact nF hr| false =>
       rw[hm] at hr;have:=nF (P:=fF (anc ops) i es) hr;simp only at this;rw[zJS hsub] at this;exact this
     have hobj:∀ n o',(n,o')∈y4 (scC (fF (anc ops) i es)) (j9 (kL es) O0)->∃ o,(n,o)∈objs'/\(ObjAt w S β n o->ObjAt w S β n o')/\(∀ i,jW o i->jW o' i)/\∀ b,Own β n o' b->Own β n o b:=fun n o' hm=>by
      obtain⟨o1,q1,q2⟩:=(b8 _).1 hm;simp only at q1 q2;obtain⟨q3,q4⟩:=zEC q1;have hnn:yE n P=false:=by
       cases hx:yE n P with
       |false=>rfl| true =>
        rw[<-hPP] at hx;obtain⟨e,r1,_⟩:=dB.1 (vE hx);exact absurd (tT.2 ⟨e,r1⟩) q4
      refine⟨scO P o1,(hin _).2 ⟨o1,q3,by rw[hPP,hnn]⟩,fun hat=>?_,fun j hj=>?_,fun b hb=>?_⟩;{rw[q2,<-zJR hsub];exact zSO hat};{rw[q2,<-zJR hsub];exact zNX hj};{rw[q2] at hb;exact zRI (uE hb)}
     (have hndl:((y4 (scC (fF (anc ops) i es)) (j9 (kL es) O0)).map Prod.fst).Nodup:=by rw[gQ];exact (zEN _ _).nodup hnd0);have hw2:=h.weak (τ':=fun t=>scC (fF (anc ops) i es) (zB G t)) hweak hndl hobj;have hs2:vH false (y4 (scC (fF (anc ops) i es)) (j9 (kL es) O0)) ops o (fun t=>scC (fF (anc ops) i es) (zB G t)) pvs[i]:=sO (fun t ht=>by rw[hagree t ht]) hs1;have hndst:∀ d,o.dst=some d->yE d P=false:=fun d hd=>by
      cases hx:yE d P with
      |false=>rfl| true =>
       rw[<-hPP] at hx;obtain⟨e,q1,q2⟩:=dB.1 (vE hx);obtain⟨oe,hoe,hde,_⟩:=hlist e d q1 q2;have hek:=(hes e d q1).1;have:=aH D.dst (by rw[jY hek];exact hoe) (by rw[jY hik];exact ho) hde hd;subst this;exact absurd q2 hnl
     have hTT:upd (zB (sA P G)) o.dst (scC P pvs[i])=zB (sA (PL (fun e=>(L.setIfInBounds i true).getD e false) es) (put ⟨G,[]⟩ o.dst pvs[i]).tmps):=by
      funext t;rw[qR,hG',hPL t];cases hd:o.dst with
      |none =>
       simp only[upd];rw[qR];cases yE t P with
       |true=>rfl| false=>exact (dI hPL _).symm
      |some d =>
       simp only[upd];by_cases htd:t=d;{subst htd;rw[if_pos rfl,if_pos rfl,hndst t hd];exact (dI hPL _).symm}
       ·rw[if_neg htd,if_neg htd,qR];cases yE t P with
        |true=>rfl| false=>exact (dI hPL _).symm
     (have hfin:∀ y,y∈objs'↔AMem es O0 X (fun e=>(L.setIfInBounds i true).getD e false) y:=fun y=>by rw[hin y];exact i6 (fun m=>by rw[hPP,hPL]) y);refine dW ho ?_;rcases jQ hw2.tmp hs2 with⟨hw,hA⟩|⟨hw,hBB⟩
     {refine .inl ⟨hw,iC hw2 hA fun pv w' S' v hpv l hr=>?_⟩;refine hnext (S':=S') (β':=β) hG' ?_ hfin;rw[<-hTT];exact (h.go l).put o.dst hdo (nF (hr.le _ hpv))};{refine .inr ⟨hw,hnext (S':=S) (β':=β) hG' ?_ hfin⟩;rw[<-hTT];refine h.put o.dst hdo (nF ?_);rw[hBB];exact nG _ _ _}
theorem bI {m n:Nat}{x:Obj'}(hne:m≠n):∀ (l:List (Nat×Obj')),yG (setO l m x) n=yG l n
 |[]=>by show (match nqb m n with|true=>some x|false=>none)=none;grind [yY]| (u,v)::r=>by
  unfold setO;cases hu:nqb u m with
  |true =>
   grind [nqb,yG]
  |false =>
   show (match nqb u n with|true=>some v|false=>yG (setO r m x) n)=(match nqb u n with|true=>some v|false=>yG r n);rw[bI hne r]
section
variable {a:Act} {w:World} {S:Nat->Nat->Prop} {β:Bm}
theorem zIZ (ops:List Oper)(l:List Bool):Region.ready .any ops.toArray l.toArray=rdyL ops l:=by
 unfold Region.ready rdyL;simp only[zMM];congr 1;funext i;have e1:l.toArray.getD i true=l.getD i true:=by simp_all
 rw[e1];congr 1;rw[List.getElem?_toArray];cases ops[i]? with
 |none=>rfl| some o =>
  simp only[Option.map_some,Option.getD_some];unfold zO4;simp_all
theorem zQR {o:Oper}{a:Act}{w:World}{K:Act->World->Prop}{Q Q':Exit->Act->World->Prop}(h:∀ e a w,Q e a w->Q' e a w)(hh:o.wp Pg a w K Q):o.wp Pg a w K Q':=by
 unfold Oper.wp at *
 generalize (execOp a.eval o).run Pg w=r at *
 cases r with
 |ok n w' =>
  cases n with
  |enter f args =>
   rw[Oper.upon_enter] at *
   refine hh.mono fun e w'' q=>?_;cases e with
   |returned v=>exact q| panicked c=>grind| outgrown=>obtain⟨a',w1,q⟩:=q;exact⟨a',w1,h _ _ _ q⟩
  |_=>exact hh
 |halt x w' =>
  cases x with
  |panic v=>exact h _ _ _ hh| _=>exact hh
theorem zAY {ops:Array Oper}{Q Q':Exit->Act->World->Prop}(h:∀ e a w,Q e a w->Q' e a w):∀ (f:Nat) (l:Array Bool) (a:Act) (w:World),wpAny Pg .any ops Q f l a w->wpAny Pg .any ops Q' f l a w
 |0,l,a,w,hh=>⟨hh.1,h _ _ _ hh.2⟩| f+1,l,a,w,hh=>⟨fun e=>h _ _ _ (hh.1 e),fun i hi=>by
  have:=wpOp_mono (fun a w=>zAY h f _ a w) (hh.2 i hi);unfold wpOp at *
  split;{grind}
  ·rename_i o e;rw[e] at this;simp only at this;split;{rename_i hw;rw[if_pos hw] at this;rcases this with q|⟨q1,a',w1,q2⟩;{grind [zQR]};{exact .inr ⟨q1,a',w1,h _ _ _ q2⟩}};grind⟩
theorem zR7 {o:Oper}{τ:Nat->PV}(hc:calm o τ=true)(he:∀ x,Rep w S β (a.eval x) (ev τ x)){objs:List (Nat×Obj')}{K:PV->Prop}(hs:sop objs o.op (ev τ) K):∃ pv v,K pv/\Rep w S β v pv/\∀ w',(execOp a.eval o).run Pg w'=.ok (.value v) w':=by unfold calm at hc;split at hc;{rename_i x hop;rw[hop] at hs;exact⟨_,_,hs,he x,fun w'=>by simp[execOp,hop]⟩};{rename_i x hop;rw[hop] at hs;have hx:=he x;split at hc;{rename_i n off e;rw[e] at hx;obtain⟨b,hβ,hv⟩:=kC hx;simp only[sop] at hs;rw[e] at hs;exact⟨_,_,hs,.ptr hβ,fun w'=>by simp[execOp,hop,hv]⟩};grind};{rename_i t x i hop;rw[hop] at hs;have hx:=he x;split at hc;{rename_i n fs z n' off ht e;split at hc;{rename_i f hf;rw[e] at hx;obtain⟨b,hβ,hv⟩:=kC hx;obtain⟨o1,s1,g1⟩:=f;obtain⟨fields,fld,h1,h2,h3,h4,h5,h6⟩:=zEH ht hf;simp only[sop] at hs;rw[ht,e] at hs;simp only[hf] at hs;refine⟨_,_,hs,.ptr hβ,fun w'=>?_⟩;have:=cO (w:=w') ht hf b off;simp[execOp,hop,hv,this]};grind};{rename_i n fs z n' s' i' off ht e;split at hc;{rename_i f hf;rw[e] at hx;obtain⟨b,hβ,hv⟩:=kP hx;obtain⟨o1,s1,g1⟩:=f;obtain⟨fields,fld,h1,h2,h3,h4,h5,h6⟩:=zEH ht hf;simp only[sop] at hs;rw[ht,e] at hs;simp only[hf] at hs;refine⟨_,_,hs,.aptr hβ,fun w'=>?_⟩;have:=cO (w:=w') ht hf b (i' ()*s'+off);rw[lV] at this;simp[execOp,hop,hv,this]};grind};grind};grind
theorem l9 {ops:List Oper}{l:List Bool}{τ:Nat->PV}:∀ {r:List Nat} {j:Nat},zK6 ops l τ r=some j->j∈r/\∃ o,ops[j]?=some o/\calm o τ=true/\zG4 o=true/\Region.free .any ops.toArray l.toArray j=true
 |[],j,h=>by cases h
 |i::r,j,h=>by
  unfold zK6 at h;cases ho:ops[i]? with
  |none =>
   rw[ho] at h;have:=l9 h;grind
  |some o =>
   rw[ho] at h;simp only at h;cases hc:calm o τ&&zG4 o&&Region.free .any ops.toArray l.toArray i with
   |false =>
    rw[hc] at h;have:=l9 h;grind
   |true =>
    grind
theorem zKY {f:Nat->Prop}:∀ {r:List Nat},allW f r->∀ j,j∈r->f j
 |[],_,j,h=>by cases h
 |i::r,h,j,hj=>by rcases yI.1 hj with e|e;{rw[e];exact h.1};{exact zKY h.2 j e}
theorem oE {o:Oper}(h:zG4 o=true)(y:Nat->Option Value):o.guard=none:=by grind [zG4]
theorem zP6 {o:Oper}{ps:PS}{K:PS->Prop}(hc:calm o (zB ps.tmps)=true)(h:bH o ps K):sop ps.objs o.op (ev (zB ps.tmps)) (fun v=>K (put ps o.dst v)):=by unfold calm at hc;split at hc;{rename_i x hop;unfold bH at h;simp_all};{rename_i x hop;unfold bH at h;rw[hop] at h ⊢;exact h};{rename_i t x i hop;unfold bH at h;rw[hop] at h ⊢;exact h};grind
theorem zIC {ops:List Oper}{K:PS->Prop}(hsel:Region.noSelect ops.toArray=true)(hdst:∀ o,o∈ops->pB N o=true):∀ (f:Nat) (l:List Bool) (ps:PS) {a:Act} {w:World} {S:Nat->Nat->Prop} {β:Bm},zG8 ops f l ps K->Sim w0 S0 K0 N (zB ps.tmps) ps.objs a w S β ->wpAny Pg .any ops.toArray (fun e a w=>match e with|.normal=>∃ ps' S' β',K ps'/\Sim w0 S0 K0 N (zB ps'.tmps) ps'.objs a w S' β'|_=>False) f l.toArray a w
 |0,l,ps,a,w,S,β,hs,h=>by unfold zG8 at hs;unfold wpAny;rw[zIZ];grind| f+1,l,ps,a,w,S,β,hs,h=>by
  unfold zG8 at hs;cases hr:rdyL ops l with
  |nil =>
   rw[hr] at hs;exact wpAny_done (by rw[zIZ,hr]) ⟨ps,S,β,hs,h⟩ _
  |cons i r =>
   (rw[hr] at hs;simp only at hs;have hd:∀ {o:Oper},o∈ops->∀ t,o.dst=some t->t<N:=fun {o} ho t ht=>by grind [pB]);cases ht:zK6 ops l (zB ps.tmps) (i::r) with
   |some j =>
    rw[ht] at hs;simp only at hs;obtain⟨hj,o,ho,hc,hg,hf⟩:=l9 ht;unfold zQD at hs;rw[ho] at hs;simp only[hg] at hs;have hg':=oE hg (fun _=>none);obtain⟨pv,v,h1,h2,h3⟩:=zR7 (w:=w) (S:=S) (β:=β) (a:=a) hc (fun x=>h.eval x) (zP6 hc hs);refine wpAny_take (i:=j) (oi:=o) (v:=v) (by grind) hsel hf (by grind [zIZ]) (fun c a w q=>q.elim) (.inl ⟨by grind [Region.wanted],h3⟩) ?_;have:=zIC hsel hdst f (l.set j true) _ h1 (wO h o.dst (hd (yA ho)) h2);grind
   |none =>
    rw[ht] at hs;simp only at hs;refine wpAny_all (rs:=i::r) (by rw[zIZ,hr]) (by simp) fun j hj=>?_;have hs':=zKY hs j hj;unfold zQD at hs';unfold wpOp;rw[List.getElem?_toArray];cases ho:ops[j]? with
    |none=>grind| some o =>
     rw[ho] at hs';simp only at hs' ⊢;cases hg:zG4 o with
     |false=>grind| true =>
      rw[hg] at hs';have hg':=oE hg (fun _=>none);rw[if_pos (by grind [Region.wanted])];refine .inl (dM h hs' (hd (yA ho)) fun ps' a' w' S' β' hK hsim=>?_);have:=zIC hsel hdst f (l.set j true) ps' hK hsim;grind
end
theorem zL0 {ops:List Oper}{ps:PS}{K:PS->Prop}(hs:DrawK ops ps K){Q:Exit->Act->World->Prop}(hdst:∀ o,o∈ops->pB N o=true)(hk:∀ ps' a' w' S' β',K ps'->Sim w0 S0 K0 N (zB ps'.tmps) ps'.objs a' w' S' β'->Q .normal a' w') {a:Act} {w:World} {S:Nat->Nat->Prop} {β:Bm} (h:Sim w0 S0 K0 N (zB ps.tmps) ps.objs a w S β):wpAny Pg .any ops.toArray Q ops.length (Array.replicate ops.length false) a w.drew:=by
 have hnone:∀ j,¬Lst (Array.replicate ops.length false) j:=by
  intro j hj;unfold Lst at hj;rcases uQ j ops.length with h'|h'
  all_goals simp_all
 have hunl:∀ n,unl (Array.replicate ops.length false) n<=n:=by
  intro n;induction n with
  |zero=>exact zZ _| succ n ih=>grind [unl]
 cases hs with
 |of k ps' hw hd hs =>
  (obtain⟨S1,β1,h1⟩:=hw.sound h;have D:=cX hd;have hkl:k<=ops.length:=by rcases uQ ops.length k with h'|h';{obtain⟨o,ho⟩:=D.full ops.length h';grind};omega);obtain⟨pvs,ps2,g1,g2,g3,g4,g5⟩:=zDT _ hs;have hno:∀ i o,i<k->ops[i]?=some o->wW o=none:=by
   (intro i o hi ho;have hlt:i<pvs.length:=by grind);exact (zHK (g5 i o pvs[i] (by grind) (qI hlt))).1
  refine zW9 (ms:=[]) D hdst hk hkl g1 (by rw[uU,<-g3];exact g2) (fun x=>⟨fun q=>by simp at q,fun⟨i,o,q1,q2,q3⟩=>by grind⟩) (by rw[uU];exact h1.obj.nd) (fun n x q=>by simp at q) g4
   (fun i o pv q1 q2=>(zHK (g5 i o pv q1 q2)).2) ops.length _ (by simp) (fun j _ _=>hnone j) (fun i o _ hl=>absurd hl (hnone i)) (hunl _) (h1.go (kG h1.ld.bnd)) (fun x=>⟨.inl,fun q=>q.resolve_right fun⟨i,_,_,q2,_⟩=>hnone i q2⟩)
   ⟨fun j o t pv _ hl=>absurd hl (hnone j),fun t _=>rfl⟩
 |mk k ps' hw hd hm hs =>
  (obtain⟨S1,β1,h1⟩:=hw.sound h;have D:=cX hd;have hkl:k<=ops.length:=by rcases uQ ops.length k with h'|h';{obtain⟨o,ho⟩:=D.full ops.length h';grind};omega);obtain⟨pvs,ps2,g1,⟨g2a,g2⟩,g3,g4,g5⟩:=zF5 _ hs;simp only[yT] at hm;have hms:=fun x=>oK (k:=k) (ops:=ops) (x:=x);refine zW9 (ms:=yO (ops.take k)) D hdst hk hkl g1 (by grind) hms ?_ ?_ g4
   g5 ops.length _ (by simp) (fun j _ _=>hnone j) (fun i o _ hl=>absurd hl (hnone i)) (hunl _) (h1.go (kG h1.ld.bnd)) (fun x=>⟨.inl,fun q=>q.resolve_right fun⟨i,_,_,q2,_⟩=>hnone i q2⟩)
   ⟨fun j o t pv _ hl=>absurd hl (hnone j),fun t _=>rfl⟩
  {rw[gE,lW];refine⟨h1.obj.nd,jN hm.1,?_⟩;intro x hx y hy e;subst e;obtain⟨⟨m,o⟩,q1,rfl⟩:=y8.1 hx;obtain⟨⟨m',o'⟩,q2,e2⟩:=y8.1 hy;have:=mG hm.2 q2;simp only[yH,yT] at this;exact (yK this.2 q1).1 e2.symm};{intro n x hx;have q1:=mG hm.2 hx;simp only[yH,yT] at q1;exact⟨vV q1.2,w9 q1.1,fun m o q=>yK q1.2 q,fun t ht=>zEB ht (zAK g2a hx)⟩}

 |st k i0 n us ps' hw hd hm hs =>
  (obtain⟨S1,β1,h1⟩:=hw.sound h;have D:=cX hd;have hkl:k<=ops.length:=by rcases uQ ops.length k with h'|h';{obtain⟨o,ho⟩:=D.full ops.length h';grind};omega);simp only[zTZ,yT,tG,zC1] at hm;obtain⟨⟨hm1,hm2⟩,hm3⟩:=hm;have hi0:=mE hm1;cases hos:ops[i0]? with
  |none=>grind| some os =>
   (rw[hos] at hm2;simp only at hm2;obtain⟨hg,hnd,ts,ad,v,hop⟩:os.guard=none/\os.dst=none/\∃ ts ad v,os.op=.store ts ad v:=by grind);unfold zTY at hs
   (obtain⟨pvs1,p1,g1,g2,g3,g4,g5⟩:=zSF _ 0 hs;rw[hos] at g2;simp only at g2;obtain⟨objs2,q0,q1,q2⟩:=zQY (T:=p1.tmps) (objs:=p1.objs) hop hnd g2.2 g2.1;rw[g3] at q0;obtain⟨pvs2,p3,e1,e2,e3,e4,e5⟩:=zDT _ q1;have hlt0:i0<ops.length:=by omega);have l1:(ops.take i0).length=i0:=by grind
   have hsplit:ops.take k=ops.take i0++os::(ops.take k).drop (i0+1):=by
    (have a1:(ops.take k)[i0]?=some os:=by grind);obtain⟨a2,a3⟩:=wH.1 a1
    have a4:=zQL i0 (ops.take k);grind [List.drop_eq_getElem_cons]
   (have hpl:(pvs1++PV.any::pvs2).length=(ops.take k).length:=by grind);have hτ0:v6 ((ops.take k).take i0) ((pvs1++PV.any::pvs2).take i0) (zB ps'.tmps)=zB p1.tmps:=by grind
   (have hp3:p3=⟨p3.tmps,objs2⟩:=by cases p3;grind);refine zZO (T0:=ps'.tmps) (objs1:=ps'.objs) (objs2:=objs2) (ps2:=p3) (pvs:=pvs1++PV.any::pvs2) (os:=os) D hdst hk hi0 hos hg hkl hpl (by grind) ?_ ?_ ?_
    ops.length _ (by simp) (fun j _ _=>hnone j) (fun i o _ hl=>absurd hl (hnone i)) (hunl _) (h1.go (kG h1.ld.bnd)) (fun q=>absurd q (hnone i0)) (fun _=>rfl)
    ⟨fun j o t pv _ hl=>absurd hl (hnone j),fun t _=>rfl⟩
   {rw[hsplit,zDR oM];show _=v6 _ pvs2 (upd (v6 (ops.take i0) pvs1 (zB ps'.tmps)) os.dst .any);rw[hnd,<-g4,e4];rfl}
   ·(intro i o pv hik hne ho hp;have hb:=hm3 i hik;rw[ho] at hb;have hne':nqb i i0=false:=by grind [yY]);rw[hne',sI] at hb
    simp only[alT1,yT] at hb;rcases Nat.lt_or_gt_of_ne hne with hlt|hlt
    ·have hs1:vH false ps'.objs ops o (v6 ((ops.take k).take i) ((pvs1++PV.any::pvs2).take i) (zB ps'.tmps)) pv:=by
      (have a1:(ops.take i0)[i]?=some o:=by grind);grind
     refine⟨.inl hs1,?_⟩;rcases hb with ((hb|hb)|hb)|hb;{grind [zAZ]};{grind};{have:=mE hb.1;omega}
     ·(refine .inl (zCC (q0 (by grind [yE])) ?_);have a1:(ops.take i0)[i]?=some o:=by grind);grind
    ·have hs2:vH false objs2 ops o (v6 ((ops.take k).take i) ((pvs1++PV.any::pvs2).take i) (zB ps'.tmps)) pv:=by
      (obtain⟨m,rfl⟩:∃ m,i=i0+1+m:=⟨i-(i0+1),by omega⟩;have a1:((ops.take k).drop (i0+1))[m]?=some o:=by rw[List.getElem?_drop,jY hik];exact ho);have a2:pvs2[m]?=some pv:=by
       (rw[tI oM] at hp;have:i0+1+m-pvs1.length=m+1:=by omega);rw[this,tH] at hp
       exact hp
      have:=e5 m o pv a1 a2;have b1:(ops.take k).take (i0+1+m)=ops.take i0++os::((ops.take k).drop (i0+1)).take m:=by
       (have hx:=congrArg (List.take (i0+1+m)) hsplit;rw[hx,List.take_append];have c1:(ops.take i0).take (i0+1+m)=ops.take i0:=yS oM;have c2:i0+1+m-(ops.take i0).length=m+1:=by omega);rw[c1,c2,zQM]
      have b2:(pvs1++PV.any::pvs2).take (i0+1+m)=pvs1++PV.any::pvs2.take m:=by
       (rw[List.take_append];have c1:pvs1.take (i0+1+m)=pvs1:=yS oM;have c2:i0+1+m-pvs1.length=m+1:=by omega);rw[c1,c2,zQM]
      rw[b1,b2,zDR oM];show vH false _ _ _ (v6 _ _ (upd (v6 (ops.take i0) pvs1 (zB ps'.tmps)) os.dst .any)) _;rw[hnd,<-g4];exact this
     refine⟨?_,.inl hs2⟩;rcases hb with ((hb|hb)|hb)|hb;{grind [zAZ]};{have:=mE hb.1;omega};{grind};{have:=mE hb.1;omega}
   ·intro T hT;have:=q2 (fun p=>zB p.tmps=upd (zB T) os.dst ((pvs1++PV.any::pvs2).getD i0 .any)/\p.objs=objs2) T (fun x hx=>?_) (by rw[hnd];exact⟨rfl,rfl⟩);{grind}
    ·cases x with
     |tmp t =>
      show zB T t=zB p1.tmps t;rw[hT t ?_,hτ0];unfold jC;grind
     |_=>rfl
 |ef k es ps' hw hd he hm hs =>
  (obtain⟨S1,β1,h1⟩:=hw.sound h;have D:=cX hd;have hkl:k<=ops.length:=by rcases uQ ops.length k with h'|h';{obtain⟨o,ho⟩:=D.full ops.length h';grind};omega);simp only[yT] at hm;simp only[efOk,yT,tG,zC1] at he;obtain⟨he1,he2⟩:=he;have hinj:∀ {i j n},yQ es i=some n->yQ es j=some n->i=j:=fun h1 h2=>zAN he1 h1 h2;have hek:∀ i n,yQ es i=some n->i<k:=fun i n h=>mE (he2 _ (jP h)).1.1;have hmkE:∀ i o x,ops[i]?=some o->wW o=some x->yQ es i=none:=fun i o x ho hmk=>by
   cases hl:yQ es i with
   |none=>rfl| some n =>
    have:=(he2 _ (jP hl)).1.2;grind
  have hanc:∀ i n j oj x,i<k->yQ es i=some n->j<k->ops[j]?=some oj->wW oj=some (n,x)->((anc ops).getD i 0).testBit j=true:=fun i n j oj x _ hi hj hoj hmk=>by have:=(he2 _ (jP hi)).2 j hj;simp only[hoj,hmk,nqb_self,Bool.not_true,sI] at this;omega
  (obtain⟨pvs,Ob,T2,g1,g2,⟨g3,g4⟩,g5,g6⟩:=zTL _ 0 hs;have g6':∀ i o pv,(ops.take k)[i]?=some o->pvs[i]?=some pv->EfStep ops es (yO (ops.take k)) (j9 (kL es) ps'.objs) i o (v6 ((ops.take k).take i) (pvs.take i) (zB ps'.tmps)) pv (Ob i) (Ob (i+1)):=fun i o pv q1 q2=>by grind);have hkt:(ops.take k).length=k:=by grind
  (have hms:=fun x=>oK (k:=k) (ops:=ops) (x:=x);have hndm:((ps'.objs++yO (ops.take k)).map Prod.fst).Nodup:=by rw[gE,lW];refine⟨h1.obj.nd,jN hm.1,?_⟩;intro x hx y hy e;subst e;obtain⟨⟨m,o⟩,q1,rfl⟩:=y8.1 hx;obtain⟨⟨m',o'⟩,q2,e2⟩:=y8.1 hy;have:=mG hm.2 q2;simp only[yH,yT] at this;exact (yK this.2 q1).1 e2.symm);have hop:∀ i,i<k->∃ o pv,ops[i]?=some o/\(ops.take k)[i]?=some o/\pvs[i]?=some pv:=fun i hi=>by have q1:ops[i]?=some ops[i]:=qI oM;exact⟨_,_,q1,by grind,qI oM⟩
  have hnm:∀ i,i<=k->(Ob i).map Prod.fst=(ps'.objs++yO (ops.take i)).map Prod.fst:=by
   intro i;induction i with
   |zero=>intro _;rw[g2];simp[yO]| succ i ih =>
    (intro hi;obtain⟨o,pv,q1,q2,q3⟩:=hop i oM;have ih:=ih oM;have e:ops.take (i+1)=ops.take i++[o]:=by rw[tF,q1];rfl);rw[e,gH]
    cases g6' i o pv q2 q3 with
    |mk hmk _ hO=>rw[hO,gE,ih];grind [yO]| eff hmk _ h0 _ _ _ hO=>rw[hO,v8 (y8.2 ⟨_,y5 h0,rfl⟩),ih];simp[yO,hmk]| pure hmk _ _ hO=>grind [yO]
  have hnd:∀ i,i<=k->((Ob i).map Prod.fst).Nodup:=fun i hi=>by
   (rw[hnm i hi];have e:ops.take k=ops.take i++(ops.take k).drop i:=by have:=zQL i (ops.take k);grind);rw[e,gH,<-zMI,gE] at hndm;grind
  obtain⟨X,hXd⟩:∃ X:Nat->Obj',∀ i n x,yQ es i=some n->yG (Ob (i+1)) n=some x->X i=x:=⟨fun i=>((yQ es i).bind (yG (Ob (i+1)))).getD (.box []),fun i n x q1 q2=>by grind⟩;have hX:∀ i n x,i<k->yQ es i=some n->(n,x)∈Ob (i+1)->X i=x:=fun i n x hi q1 q2=>hXd i n x q1 (vW (hnd (i+1) oM) q2);have hXin:∀ i n x0 x,yG (Ob i) n=some x0->(n,x)∈setO (Ob i) n x:=fun i n x0 x q=>bZ (y8.2 ⟨_,y5 q,rfl⟩);have hOb:∀ i,i<=k->∀ y,y∈Ob i↔EMem ops es k ps'.objs X (fun j=>j<i) y:=by
   intro i;induction i with
   |zero =>
    intro _ y;rw[g2];unfold EMem;constructor;{grind};grind
   |succ i ih =>
    (intro hi y;obtain⟨o,pv,q1,q2,q3⟩:=hop i oM;have ih:=ih oM;have hL:∀ j,j<i+1↔j<i\/j=i:=fun j=>by omega);cases g6' i o pv q2 q3 with
    | @mk d x hmk _ hO =>
     have hno:∀ j,j<k->yQ es j=some d->¬j<i:=fun j hj hje hji=>by
      (have hjo:ops[j]?=some ops[j]:=qI oM;have hL:∀ a oa,ops[a]?=some oa->a<j->sJ (fun b=>b<j) oa:=fun a oa hoa haj e he hb=>by have:=D.back a oa hoa e he hb;omega);have:i<j:=xV (L:=fun b=>b<j) hL hjo (fun e he hb=>D.back j _ hjo e he hb) (hanc j d i o x hj hje oM q1 hmk);omega
     rw[hO,vX,vL,EMem.mk q1 oM hmk (hmkE i o _ q1 hmk) hno hL y,ih y]
    | @eff n x x0 hmk he h0 _ _ _ hO =>
     have hxX:X i=x:=hX i n x oM he (by rw[hO];exact hXin _ _ _ _ h0);obtain⟨y1,y2⟩:=y;rw[hO,oI (hnd i oM) (y8.2 ⟨_,y5 h0,rfl⟩),EMem.eff hinj q1 oM hmk he hL,ih,hxX]
    |pure hmk he _ hO=>rw[hO,EMem.pure q1 hmk he hL y,ih y]
  (rw[hkt] at g4;have hEM0:∀ y,y∈ps'.objs↔EMem ops es k ps'.objs X (Lst (Array.replicate ops.length false)) y:=fun y=>by unfold EMem;constructor;{intro q;exact .inl ⟨.inl q,fun⟨j,_,_,q⟩=>hnone j q⟩};{rintro (⟨q|⟨j,oj,_,q,_⟩,_⟩|⟨j,_,_,q,_⟩);{exact q};{grind};grind});refine zZQ (T0:=ps'.tmps) (T2:=T2) (O0:=ps'.objs) (O2:=Ob k) (pvs:=pvs) (es:=es) (ms:=yO (ops.take k)) (lim:=j9 (kL es) ps'.objs) (X:=X) (Ob:=Ob) D hdst hk hkl (by rw[g1]) g4 g5 (hOb k (zZ _)) (hnd k (zZ _)) hms ?_ ?_ hinj hmkE hanc (fun i hi=>hOb i oM) g6' hX hXin
   ops.length _ (by simp) (fun j _ _=>hnone j) (fun i o _ hl=>absurd hl (hnone i)) (hunl _) (h1.go (kG h1.ld.bnd)) hEM0 ⟨fun j o t pv _ hl=>absurd hl (hnone j),fun t _=>rfl⟩
  {intro n x hx;have q1:=mG hm.2 hx;simp only[yH,yT] at q1;exact⟨vV q1.2,w9 q1.1,fun m o q=>yK q1.2 q,fun t ht=>zEB ht (zAK g3 hx)⟩};{intro n o q;obtain⟨q1,q2⟩:=zGH _ q;refine⟨y5 q2,fun i hi=>?_⟩;rw[rQ (zDV (jP hi))] at q1;cases q1}
 |ap k es ps' hw hd he hs =>
  (obtain⟨S1,β1,h1⟩:=hw.sound h;have D:=cX hd;have hkl:k<=ops.length:=by rcases uQ ops.length k with h'|h';{obtain⟨o,ho⟩:=D.full ops.length h';grind};omega);simp only[apOk,yT,tG] at he;obtain⟨he1,he2⟩:=he;have hinj:∀ {i j n},yQ es i=some n->yQ es j=some n->i=j:=fun h1 h2=>zAN he1 h1 h2;have hes:∀ e m,(e,m)∈es->e<k/\m<1000000/\yQ es e=some m:=fun e m hm=>by
   obtain⟨⟨q1,q2⟩,q3⟩:=he2 _ hm;refine⟨mE q1,mE q2,?_⟩;cases hl:yQ es e with
   |none=>grind| some n=>simp only[hl] at q3;rw[yY q3]
  (obtain⟨pvs,Ob,T2,g1,g2,g3,g5,g6⟩:=zTO _ 0 hs;have g6':∀ i o pv,(ops.take k)[i]?=some o->pvs[i]?=some pv->ApStep ops es (anc ops) (j9 (kL es) ps'.objs) i o (v6 ((ops.take k).take i) (pvs.take i) (zB ps'.tmps)) pv (Ob i) (Ob (i+1)):=fun i o pv q1 q2=>by grind);have hkt:(ops.take k).length=k:=by grind
  (have hop:∀ i,i<k->∃ o pv,ops[i]?=some o/\(ops.take k)[i]?=some o/\pvs[i]?=some pv:=fun i hi=>by have q1:ops[i]?=some ops[i]:=qI oM;exact⟨_,_,q1,by grind,qI oM⟩);have hnm:∀ i,i<=k->(Ob i).map Prod.fst=ps'.objs.map Prod.fst:=by
   intro i;induction i with
   |zero=>grind| succ i ih =>
    intro hi;obtain⟨o,pv,q1,q2,q3⟩:=hop i oM;have ih:=ih oM;cases g6' i o pv q2 q3 with
    |app _ _ _ h0 _ _ _ _ _ hO=>rw[hO,v8 (y8.2 ⟨_,y5 h0,rfl⟩),ih]| pure _ _ hO=>grind
  have hnd:∀ i,i<=k->((Ob i).map Prod.fst).Nodup:=fun i hi=>by rw[hnm i hi];exact h1.obj.nd
  
  have hbef:∀ i,i<=k->∀ n,(∀ j,yQ es j=some n->i<=j)->yG (Ob i) n=yG ps'.objs n:=by
   intro i;induction i with
   |zero=>grind| succ i ih =>
    intro hi n hn;obtain⟨o,pv,q1,q2,q3⟩:=hop i oM;have ih:=ih oM n (fun j hj=>by grind);cases g6' i o pv q2 q3 with
    | @app m _ _ _ _ _ he' _ _ _ _ _ _ _ _ hO =>
     grind [bI]
    |pure _ _ hO=>grind
  have haft:∀ d i,i+d<=k->∀ n,(∀ j,yQ es j=some n->j<i)->yG (Ob (i+d)) n=yG (Ob i) n:=by
   intro d;induction d with
   |zero=>grind| succ d ih =>
    intro i hi n hn;obtain⟨o,pv,q1,q2,q3⟩:=hop (i+d) oM;have ih:=ih i oM n hn;cases g6' (i+d) o pv q2 q3 with
    | @app m _ _ _ _ _ he' _ _ _ _ _ _ _ _ hO =>
     rw[show i+(d+1)=i+d+1 by omega,hO,bI (fun e=>?_),ih];grind
    |pure _ _ hO=>grind
  have hX:∀ i n x x0,i<k->yQ es i=some n->yG (Ob i) n=some x0->Ob (i+1)=setO (Ob i) n x->(yG (Ob k) n).getD (.box [])=x:=fun i n x x0 hi he' h0 hO=>by
   (have e1:yG (Ob (i+1)) n=some x:=by refine vW (hnd _ oM) ?_;rw[hO];exact bZ (y8.2 ⟨_,y5 h0,rfl⟩));have e2:=haft (k-(i+1)) (i+1) oM n (fun j hj=>by grind);rw[show i+1+(k-(i+1))=k by omega,e1] at e2;grind
  have hfinO:∀ y,y∈y4 (scC (kL es)) (Ob k)↔AMem es ps'.objs (fun n=>(yG (Ob k) n).getD (.box [])) (fun j=>decide (j<k)) y:=fun y=>by
   (have hPS:∀ m,yE m (PL (fun j=>decide (j<k)) es)=yE m (kL es):=fun m=>by rw[bQ,gX,gX,dB,tT];grind);rw[b8];unfold AMem;rw[hPS,zLM hPS];have hname:∀ n,(∃ o,(n,o)∈Ob k)↔∃ o,(n,o)∈ps'.objs:=fun n=>by
    (have e:∀ l:List (Nat×Obj'),(∃ o,(n,o)∈l)↔n∈l.map Prod.fst:=fun l=>by grind);grind
   cases hy:yE y.1 (kL es) with
   |true =>
    constructor;{rintro⟨o,q1,q2⟩;obtain⟨o',q3⟩:=(hname _).1 ⟨o,q1⟩;refine⟨o',q3,?_⟩;show y.2=scO (kL es) ((yG (Ob k) y.1).getD (.box []));rw[vW (hnd k (zZ _)) q1];exact q2};{rintro⟨o,q1,q2⟩;obtain⟨o',q3⟩:=(hname _).2 ⟨o,q1⟩;refine⟨o',q3,?_⟩;have q2':y.2=scO (kL es) ((yG (Ob k) y.1).getD (.box [])):=q2;rw[vW (hnd k (zZ _)) q3] at q2';exact q2'}
   |false =>
    (have hnn:∀ j,yQ es j=some y.1->k<=j:=fun j hj=>by grind [rQ,tT,jP]);have hg:=hbef k (zZ _) y.1 hnn
    constructor;{rintro⟨o,q1,q2⟩;rw[vW (hnd k (zZ _)) q1] at hg;grind [y5]};grind [vW,y5]
  have hP0:PL (fun i=>(Array.replicate ops.length false).getD i false) es=[]:=by
   (have:∀ m,m∉PL (fun i=>(Array.replicate ops.length false).getD i false) es:=fun m hm=>by obtain⟨e,_,q⟩:=dB.1 hm;exact hnone e q);exact List.eq_nil_iff_forall_not_mem.2 this
  rw[hkt] at g3;refine zZP (T0:=ps'.tmps) (T2:=T2) (O0:=ps'.objs) (O2:=y4 (scC (kL es)) (Ob k)) (pvs:=pvs) (es:=es) (X:=fun n=>(yG (Ob k) n).getD (.box [])) (Ob:=Ob) D hdst hk hkl (by rw[g1]) g3 g5 hfinO (by rw[gQ];grind) hes hinj g6'
   (fun i n x0 hi he' h0=>by rw[hbef i oM n (fun j hj=>by grind)] at h0;exact y5 h0) hX h1.obj.nd
   ops.length (Array.replicate ops.length false) (G:=ps'.tmps) (objs':=y4 (scC []) ps'.objs) (S:=S1) (β:=β1) (by simp) (fun j _ _=>hnone j) (fun i o _ hl=>absurd hl (hnone i)) (hunl _) ?_ ?_ ⟨fun j o t pv _ hl=>absurd hl (hnone j),fun t _=>rfl⟩
  {refine ((h1.go (kG h1.ld.bnd))).weak (fun t v hr=>?_) (by grind [gQ]) fun n o' hm=>?_;{rw[hP0,qR];exact nF hr};{obtain⟨o1,q1,q2⟩:=(b8 _).1 hm;simp only at q1 q2;exact⟨o1,q1,fun h=>by rw[q2];exact zSO h,fun i h=>by rw[q2];exact zNX h,fun b hb=>by rw[q2] at hb;exact uE hb⟩}};{intro y;rw[b8];unfold AMem;rw[hP0];rfl}
 |br σ inv good ps' hw hsel hs hks =>
  obtain⟨S1,β1,h1⟩:=hw.sound h;have:=zIC hsel hdst ops.length _ ps' hs (h1.go (kG h1.ld.bnd));rw[List.toArray_replicate] at this;refine zAY (fun e a w q=>?_) _ _ _ _ this;cases e with
  |normal=>obtain⟨ps2,S2,β2,⟨s,q0,q1⟩,q2⟩:=q;obtain⟨S3,β3,q3⟩:=q1.sound q2;grind
  |_=>exact q.elim
end
end Go.Proofs.YtaeaffgjdcigoaaGreat
