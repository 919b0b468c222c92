/- A part of the proof: PmP. -/
import Derived.Test.YtfainocfaddbdaaGreatT12
set_option linter.all false
namespace Go.Proofs.YtfainocfaddbdaaGreat
open Go
def fQ (L:Nat->Prop) (o:Oper):Prop:=∀ e,e∈o.after.toList->Region.binds .any e=true->L e.on
theorem zEK {acc:List Nat}{o:Oper}{j:Nat}(h:(rG acc o).testBit j=true):∃ e,e∈o.after.toList/\Region.binds .any e=true/\(e.on=j\/(acc.getD e.on 0).testBit j=true):=by
 unfold rG at h;have gen:∀ (l:List Edge) (s:Nat),(l.foldl (fun s e=>if Region.binds .any e then s ||| (2^e.on ||| acc.getD e.on 0) else s) s).testBit j=true->s.testBit j=true\/∃ e,e∈l/\Region.binds .any e=true/\(e.on=j\/(acc.getD e.on 0).testBit j=true):=by
  intro l;induction l with
  |nil=>intro s h;exact .inl h| cons e l ih =>
   intro s h;simp only[List.foldl_cons] at h;rcases ih _ h with h1|⟨e',h1,h2⟩;{by_cases hb:Region.binds .any e=true;{rw[if_pos hb,Nat.testBit_or,Nat.testBit_or] at h1;simp only[Bool.or_eq_true] at h1;rcases h1 with h1|h1|h1;{exact .inl h1};{exact .inr ⟨e,List.mem_cons_self,hb,.inl (by simpa[Nat.testBit_two_pow] using h1)⟩};{exact .inr ⟨e,List.mem_cons_self,hb,.inr h1⟩}};{rw[if_neg hb] at h1;exact .inl h1}};{exact .inr ⟨e',List.mem_cons_of_mem _ h1,h2⟩}
 rcases gen _ _ h with h1|h1;{simp at h1};{exact h1}
theorem zJ6 {L:Nat->Prop}{ops:List Oper}(hL:∀ i o,ops[i]?=some o->L i->fQ L o):∀ (r done:List Oper) (acc:List Nat),ops=done++r->acc.length=done.length ->(∀ i o j,i<acc.length->ops[i]?=some o->fQ L o->(acc.getD i 0).testBit j=true->L j) ->∀ i o j,ops[i]?=some o->fQ L o->((zKJ r acc).getD i 0).testBit j=true->L j
 |[],done,acc,he,hl,h,i,o,j,hi,hE,hb=>by refine h i o j ?_ hi hE hb;rw[hl];simp only[List.append_nil] at he;subst he;exact (List.getElem?_eq_some_iff.1 hi).1| x::r,done,acc,he,hl,h,i,o,j,hi,hE,hb=>by
  refine zJ6 hL r (done++[x]) (acc++[rG acc x]) (by simp[he]) (by simp[hl]) ?_ i o j hi hE hb;intro i o j hlt hi hE hb;by_cases h1:i<acc.length
  ·(have:(acc++[rG acc x]).getD i 0=acc.getD i 0:=by simp only[List.getD_eq_getElem?_getD];rw[List.getElem?_append_left h1]);rw[this] at hb
   exact h i o j h1 hi hE hb
  ·(have h2:i=acc.length:=by simp at hlt;omega);subst h2
   (have:(acc++[rG acc x]).getD acc.length 0=rG acc x:=by simp);rw[this] at hb
   (have hx:ops[acc.length]?=some x:=by rw[he,hl];simp);rw[hx] at hi
   (cases hi;obtain⟨e,h3,h4,h5⟩:=zEK hb;have hLe:=hE e h3 h4;rcases h5 with h5|h5);{exact h5 ▸ hLe}
   ·by_cases h6:e.on<acc.length
    ·(have hlo:e.on<ops.length:=by rw[he];simp;omega);have ho:ops[e.on]?=some ops[e.on]:=List.getElem?_eq_getElem hlo
     exact h e.on _ j h6 ho (hL e.on _ ho hLe) h5
    ·(have:acc.getD e.on 0=0:=by simp only[List.getD_eq_getElem?_getD];rw[List.getElem?_eq_none (by omega)];rfl);rw[this] at h5
     simp at h5
theorem y8 {L:Nat->Prop}{ops:List Oper}(hL:∀ i o,ops[i]?=some o->L i->fQ L o){i j:Nat}{o:Oper}(hi:ops[i]?=some o)(hE:fQ L o)(hb:((anc ops).getD i 0).testBit j=true):L j :=
 zJ6 hL ops [] [] rfl rfl (fun i o j h=>by simp at h) i o j hi hE hb
def unl (L:Array Bool):Nat->Nat
 |0=>0| n+1=>unl L n+(if L.getD n true=true then 0 else 1)
theorem n5 {L:Array Bool}{i:Nat}:∀ {n:Nat},n<=i->unl (L.setIfInBounds i true) n=unl L n
 |0,_=>rfl| n+1,h=>by simp only[unl];rw[n5 (by omega),getD_set_ne true (by omega)]
theorem rN {L:Array Bool}{i:Nat}(hi:L.getD i true=false):∀ {n:Nat},i<n->unl (L.setIfInBounds i true) n+1=unl L n
 |0,h=>by omega| n+1,h=>by
  simp only[unl];by_cases e:i=n
  ·subst e;have hs:i<L.size:=by rcases Nat.lt_or_ge i L.size with h'|h';{exact h'};{simp[Array.getElem?_eq_none h'] at hi}
   (rw[n5 (Nat.le_refl _),hi];have:(L.setIfInBounds i true).getD i true=true:=by simp[hs]);rw[this]
   simp
  {have:=rN hi (n:=n) (by omega);rw[getD_set_ne true e];omega}
theorem c8 {L:Array Bool}:∀ {n:Nat},unl L n=0->∀ i,i<n->L.getD i true=true
 |0,_,i,h=>by omega| n+1,h0,i,h=>by simp only[unl] at h0;by_cases e:i=n;{subst e;by_cases ht:L.getD i true=true;{exact ht};{rw[if_neg ht] at h0;omega}};{exact c8 (n:=n) (by omega) i (by omega)}
theorem yX {L:Array Bool}{i:Nat}(hi:i<L.size)(d e:Bool):L.getD i d=L.getD i e:=by simp[hi]
section
variable {w0:World} {S0:Nat->Nat->Prop} {K0:Nat->Prop} {N:Cx}
structure DrawOk (ops:List Oper) (k:Nat):Prop where
 dst:kG (ops.take k)=true
 look:∀ i o t j oj,i<k->j<k->ops[i]?=some o->ops[j]?=some oj->t∈uM ops o->oj.dst=some t->(j<i/\((anc ops).getD i 0).testBit j=true)\/(i<j/\((anc ops).getD j 0).testBit i=true)
 full:∀ i,i<k->∃ o,ops[i]?=some o
 back:∀ i o,ops[i]?=some o->∀ e,e∈o.after.toList->Region.binds .any e=true->e.on<i
 rest:∀ i j,i<ops.length->k<=i->j<i->((anc ops).getD i 0).testBit j=true
theorem jX {ops:List Oper}{k:Nat}(h:u9 ops k=true):DrawOk ops k:=by
 simp only[u9,Bool.and_eq_true,List.all_eq_true,List.mem_range] at h;obtain⟨⟨⟨h1,h2⟩,h3⟩,h4⟩:=h;refine⟨h1,?_,?_,?_,?_⟩;{intro i o t j oj hi hj ho hoj ht hd;have:=h2 i hi;simp only[ho,List.all_eq_true,List.mem_range] at this;have:=this t ht j hj;simp only[hoj,hd,BEq.rfl,Bool.not_true,Bool.false_or,Bool.or_eq_true,Bool.and_eq_true,decide_eq_true_eq] at this;exact this}
 ·intro i hi;have:=h2 i hi;cases ho:ops[i]? with
  |none=>simp[ho] at this| some o=>exact⟨o,rfl⟩
 {intro i o ho e he hb;have hlt:=(List.getElem?_eq_some_iff.1 ho).1;have:=h3 i hlt;simp only[ho,List.all_eq_true] at this;have:=this e he;simp only[hb,Bool.not_true,Bool.false_or,decide_eq_true_eq] at this;exact this};{intro i j hi hk hj;have:=h4 i hi;simp only[Bool.or_eq_true,decide_eq_true_eq,List.all_eq_true,List.mem_range] at this;rcases this with h5|h5;{omega};{exact h5 j hj}}
structure At (ops:List Oper) (k:Nat) (pvs:List PV) (τ0:Nat->PV) (L:Nat->Prop) (τ:Nat->PV):Prop where
 hit:∀ j o t pv,j<k->L j->ops[j]?=some o->pvs[j]?=some pv->o.dst=some t->τ t=pv
 miss:∀ t,(∀ j o,j<k->L j->ops[j]?=some o->o.dst≠some t)->τ t=τ0 t
theorem At.step {ops:List Oper}{k:Nat}{pvs:List PV}{τ0:Nat->PV}{L L':Nat->Prop}{τ:Nat->PV}(D:DrawOk ops k)(h:At ops k pvs τ0 L τ){i:Nat}{o:Oper}{pv:PV}(hi:i<k)(ho:ops[i]?=some o)(hp:pvs[i]?=some pv) (hL':∀ j,L' j↔L j\/j=i):At ops k pvs τ0 L' (upd τ o.dst pv):=by
 have hne:∀ j oj t,j<k->ops[j]?=some oj->oj.dst=some t->o.dst=some t->j=i:=fun j oj t hj hoj hd hd' =>
  gL D.dst (by rw[List.getElem?_take_of_lt hj];exact hoj) (by rw[List.getElem?_take_of_lt hi];exact ho) hd hd'
 refine⟨fun j oj t pv' hj hLj hoj hpj hd=>?_,fun t ht=>?_⟩
 ·by_cases hji:j=i;{subst hji;rw[ho] at hoj;cases hoj;rw[hp] at hpj;cases hpj;simp[upd,hd]}
  ·have hLj':=((hL' j).1 hLj).resolve_right hji;rw[<-h.hit j oj t pv' hj hLj' hoj hpj hd];cases hd':o.dst with
   |none=>rfl| some d =>
    have:t≠d:=fun e=>hji (hne j oj t hj hoj hd (by rw[hd',e]));simp[upd,this]
 ·have h1:τ t=τ0 t:=h.miss t fun j oj hj hLj hoj=>ht j oj hj ((hL' j).2 (.inl hLj)) hoj;rw[<-h1];cases hd':o.dst with
  |none=>rfl| some d =>
   have:t≠d:=fun e=>ht i o hi ((hL' i).2 (.inr rfl)) ho (by rw[hd',e]);simp[upd,this]
theorem At.text {ops:List Oper}{k:Nat}{pvs:List PV}{τ0:Nat->PV}(D:DrawOk ops k)(hl:pvs.length=(ops.take k).length)(i:Nat)(hi:i<=k):At ops k pvs τ0 (fun j=>j<i) (wK ((ops.take k).take i) (pvs.take i) τ0):=by
 have htt:(ops.take k).take i=ops.take i:=by rw[List.take_take,Nat.min_eq_left hi]
 have hdo:kG (ops.take i)=true:=by rw[<-htt];exact mY i D.dst
 refine⟨fun j o t pv hj hLj ho hp hd=>?_,fun t ht=>?_⟩;{rw[htt];exact zCA hdo (by rw[List.getElem?_take_of_lt hLj];exact ho) (by rw[List.getElem?_take_of_lt hLj];exact hp) hd}
 ·(rw[htt];refine oI fun j o ho=>?_;have hlt:j<i:=by have:=(List.getElem?_eq_some_iff.1 ho).1;simp at this;omega);rw[List.getElem?_take_of_lt hlt] at ho;exact ht j o (by omega) hlt ho
theorem At.same {ops:List Oper}{k:Nat}{pvs:List PV}{τ0:Nat->PV}{L L':Nat->Prop}{τ τ':Nat->PV}(D:DrawOk ops k)(hlen:k<=pvs.length)(h:At ops k pvs τ0 L τ)(h':At ops k pvs τ0 L' τ'){t:Nat}(ht:∀ j o,j<k->ops[j]?=some o->o.dst=some t->(L j/\L' j)\/(¬L j/\¬L' j)):τ t=τ' t:=by
 by_cases hx:∃ j o,j<k/\ops[j]?=some o/\o.dst=some t
 ·obtain⟨j,o,hj,ho,hd⟩:=hx;rcases ht j o hj ho hd with⟨h1,h2⟩|⟨h1,h2⟩;{have hp:pvs[j]?=some pvs[j]:=List.getElem?_eq_getElem (by omega);rw[h.hit j o t _ hj h1 ho hp hd,h'.hit j o t _ hj h2 ho hp hd]}
  ·have key:∀ j' o',j'<k->ops[j']?=some o'->o'.dst=some t->j'=j:=fun j' o' hj' ho' hd' =>
    gL D.dst (by rw[List.getElem?_take_of_lt hj'];exact ho') (by rw[List.getElem?_take_of_lt hj];exact ho) hd' hd
   rw[h.miss t fun j' o' hj' hL ho' hd'=>h1 (key j' o' hj' ho' hd' ▸ hL),h'.miss t fun j' o' hj' hL ho' hd'=>h2 (key j' o' hj' ho' hd' ▸ hL)]
 {rw[h.miss t fun j o hj _ ho hd=>hx ⟨j,o,hj,ho,hd⟩,h'.miss t fun j o hj _ ho hd=>hx ⟨j,o,hj,ho,hd⟩]}
section
variable {a:Act} {w:World} {S:Nat->Nat->Prop} {β:Bm}
theorem Sim.newObjG {τ:Nat->PV}{objs:List (Nat×Obj')}{w':World}(h:Sim w0 S0 K0 N τ objs a w S β){n b:Nat}{o:Obj'}(hn:n<1000000)(hT:∀ t,y7 n (τ t)=true)(hO:∀ {m x},(m,x)∈objs->m≠n/\kX n x)(l:Leads w S vD w' S)(hb:w.heap.size<=b)(hb':b<w'.heap.size) (hat:ObjAt w' S (vG β n (some b)) n o) (hr:∀ i,¬x9 o i:=by intro _ hi;exact hi):Sim w0 S0 K0 N τ (objs++[(n,o)]) a w' S (vG β n (some b)):=by
 have hmem:∀ {m x},(m,x)∈objs++[(n,o)]->((m,x)∈objs/\m≠n)\/(m=n/\x=o):=by intro m x hm;simp only[List.mem_append,List.mem_singleton] at hm;rcases hm with hm|hm;{exact .inl ⟨hm,(hO hm).1⟩};{cases hm;exact .inr ⟨rfl,rfl⟩}
 have hg:=h.go l;refine⟨h.dfr,h.sz,hg.ld,fun t=>(hg.tmp t).upd (hT t),⟨?_,?_,?_,?_⟩,?_,?_⟩;{rw[List.map_append,List.nodup_append];refine⟨h.obj.nd,by simp,?_⟩;intro x hx y hy e;simp at hy;subst hy e;obtain⟨⟨m,o⟩,h1,rfl⟩:=List.mem_map.1 hx;exact (hO h1).1 rfl};{intro m x hm;rcases hmem hm with⟨h1,h2⟩|⟨rfl,rfl⟩;{exact (hg.obj.at_ m x h1).upd h2 (hO h1).2};{exact hat}};{intro m x c hm hβ;rcases hmem hm with⟨h1,h2⟩|⟨rfl,rfl⟩;{exact hg.obj.un m x c h1 (x4 h2 hβ)};{have hβ:=yR hr hβ;rw[yI] at hβ;cases hβ;exact⟨fun i hS=>by have:=h.ld.bnd b i hS;omega,hb'⟩}};{intro m x m' x' c hm hm' hβ hβ';rcases hmem hm with⟨h1,h2⟩|⟨rfl,rfl⟩;{rcases hmem hm' with⟨h3,h4⟩|⟨rfl,rfl⟩;{exact hg.obj.inj _ _ _ _ c h1 h3 (x4 h2 hβ) (x4 h4 hβ')};{have hβ':=yR hr hβ';rw[yI] at hβ';cases hβ';have:=(h.obj.un m x b h1 (x4 h2 hβ)).2;omega}};{rcases hmem hm' with⟨h3,h4⟩|⟨rfl,rfl⟩;{have hβ:=yR hr hβ;rw[yI] at hβ;cases hβ;have:=(h.obj.un m' x' b h3 (x4 h4 hβ')).2;omega};{rfl}}};{intro m x c hm hβ;rcases hmem hm with⟨h1,h2⟩|⟨rfl,rfl⟩;{exact h.own m x c h1 (x4 h2 hβ)};{have hβ:=yR hr hβ;rw[yI] at hβ;cases hβ;have:=h.ld.size;exact .inl (by omega)}};{intro m x hm hb2;rcases hmem hm with⟨h1,h2⟩|⟨rfl,rfl⟩;{rw[xU h2];exact h.keep m x h1 hb2};{omega}}
theorem tD {d:Nat}{t:TypeId}(hno:(ty t).isNo=false):xT d (ty t).zero=true:=by
 cases hty:ty t with
 |no=>simp[hty,Ty.isNo] at hno| sc z=>obtain⟨_,_,zv',_,_,_,_,_,_,h7,_⟩:=oJ hty;rw[h7];simp only[Ty.zero,xT,yN,Bool.and_true];unfold x8;split <;> rfl
 |st n fs z =>
  obtain⟨_,_,zs,_,_,_,_,_,_,h7,_⟩:=n6 hty;rw[h7];simp only[Ty.zero];generalize zs.toList=l;induction l with
  |nil=>rfl| cons x l ih=>simp only[List.map_cons,xT,yN,Bool.and_eq_true];exact⟨by unfold x8;split <;> rfl,ih⟩
 |arr len n ag z =>
  obtain⟨_,_,zs,_,_,_,_,_,_,_,_,_,_,h7⟩:=sH hty;rw[h7];simp only[Ty.zero];generalize zs.toList=l;induction l with
  |nil=>rfl| cons x l ih=>simp only[List.map_cons,xT,yN,Bool.and_eq_true];exact⟨by unfold x8;split <;> rfl,ih⟩
 |sli n b z=>rfl
theorem zL9 {o:Oper}{d:Nat}{x:Obj'}{τ:Nat->PV}{objs:List (Nat×Obj')}{Km:Act->World->Prop}{Q:Exit->Act->World->Prop}(hm:xR o=some (d,x))(hd:d7 N o=true)(h:Sim w0 S0 K0 N τ objs a w S β) (hn:d<1000000) (hT:∀ t,y7 d (τ t)=true) (hO:∀ {m y},(m,y)∈objs->m≠d/\kX d y) (hk:∀ a' w' β',Sim w0 S0 K0 N (upd τ o.dst (.ptr d 0)) (objs++[(d,x)]) a' w' S β'->Km a' w'):o.wp Pg a w Km Q:=by
 obtain⟨hg,hod,t,hop,hno,rfl⟩:=uL hm;obtain⟨i,zv,h1,h2,h3⟩:=zE8 (w:=w) (S:=S) (β:=β) hno;have hz:xT d (ty t).zero=true:=tD hno;have l:=vB (w:=w) h.ld.bnd (.cells zv.cells t);have hnw:=h.newObjG (w':=w.alloc (.cells zv.cells t)) (b:=w.heap.size) (o:=.box (ty t).zero) hn hT hO l (Nat.le_refl _) (by simp) ⟨w.heap.size,zv.cells,t,yI,heap_alloc_new w _,h3.1,fun j hj =>
  ((h3.2 j hj).evo (l.evo h.ld.bnd) (l.subs h.ld.bnd)).upd (y6 rfl hz j)⟩
 refine uJ (v:=.pointer (some ⟨w.heap.size,0,none⟩)) (w':=w.alloc (.cells zv.cells t)) ?_ ?_;{simp[execOp,hop,Instr.alloc,bC h1 h2,newVar,newRow]};{exact hk _ _ _ (hnw.put o.dst (fM hd) (.ptr yI))}
theorem Sim.perm {τ:Nat->PV}{objs objs':List (Nat×Obj')}(h:Sim w0 S0 K0 N τ objs a w S β)(hm:∀ x,x∈objs'↔x∈objs)(hnd:(objs'.map Prod.fst).Nodup):Sim w0 S0 K0 N τ objs' a w S β :=
 ⟨h.dfr,h.sz,h.ld,h.tmp,⟨hnd,fun n o hx=>h.obj.at_ n o ((hm _).1 hx),fun n o b hx=>h.obj.un n o b ((hm _).1 hx),fun n o m o' b hx hy=>h.obj.inj n o m o' b ((hm _).1 hx) ((hm _).1 hy)⟩,
  fun n o b hx=>h.own n o b ((hm _).1 hx),fun n o hx=>h.keep n o ((hm _).1 hx)⟩
theorem wH:∀ {l:List (Nat×Obj')} {n:Nat} {o:Obj'},(l.map Prod.fst).Nodup->(n,o)∈l->z7 l n=some o
 |[],n,o,_,h=>by simp at h| (u,v)::r,n,o,hnd,h=>by simp only[List.map_cons,List.nodup_cons] at hnd;simp only[List.mem_cons] at h;unfold z7;rcases h with h|h;{cases h;simp};{have:u≠n:=fun e=>hnd.1 (by rw[e];exact List.mem_map.2 ⟨_,h,rfl⟩);rw[nbeq this];exact wH hnd.2 h}
end
theorem sL {o:Oper}{τ:Nat->PV}{objs:List (Nat×Obj')}{a:Act}{w:World}{S:Nat->Nat->Prop}{β:Bm}{K:PV->Prop}{Km:Act->World->Prop}{Q:Exit->Act->World->Prop}(h:Sim w0 S0 K0 N τ objs a w S β)(hs:uH false objs o.op (ev τ) K) (hk:∀ pv w' S' v,K pv->Leads w S vD w' S'->Rep w' S' β v pv->Km (a.put o.dst v) w'):o.wp Pg a w Km Q:=by
 unfold uH at hs;cases hi:sG o.op with
 |false=>rw[hi] at hs;exact tE h hs hk| true =>
  rw[hi] at hs;obtain⟨c',hc1,hc2⟩:=zC0 hi;obtain⟨c,b,x,t,tx,n,bb,z,hop,h1,h2,h3,h4,h5,h6⟩:=zBI hs;rw[hc1] at hop;cases hop;exact zAT hc1 hc2 h1 h2 h3 h h4 h5 h6 hk
theorem mN {nb:Bool}{o:Oper}{τ:Nat->PV}{objs:List (Nat×Obj')}{a:Act}{w:World}{S:Nat->Nat->Prop}{β:Bm}{K:PV->Prop}{Km:Act->World->Prop}{Q:Exit->Act->World->Prop}(h:Sim w0 S0 K0 N τ objs a w S β)(hs:uH nb objs o.op (ev τ) K) (hk:∀ pv w' S' β' v,K pv->Sim w0 S0 K0 N τ objs a w' S' β'->Rep w' S' β' v pv->Km (a.put o.dst v) w'):o.wp Pg a w Km Q:=by
 have fin:uH false objs o.op (ev τ) K->o.wp Pg a w Km Q:=fun hs=>sL h hs fun pv w' S' v hK l hr=>hk pv w' S' β v hK (h.go l) hr;cases nb with
 |false=>exact fin hs| true =>
  cases hi:sG o.op with
  |true=>exact fin (by unfold uH at hs ⊢;rw[hi] at hs ⊢;exact hs)| false =>
   (have hs':sK objs o.op (ev τ) K:=by unfold uH at hs;rw[hi] at hs;exact hs);rcases aC hs' with⟨h1,h2⟩|⟨c,f,g,caps,h1,h2,h3,h4,h5⟩
   {exact fin (by unfold uH;rw[hi];exact h2)};{rcases h5.h with⟨args',r,q1,q2,q3,q4⟩|⟨_,hn,cargs,kept,r,q1,q2,q3,q4,q5,q6,q7,q8,q9,q10⟩;{exact b7 h1 h2 h h4 ⟨args',r,q1,q2,q3,q4⟩ fun pv w' S' v hK l hr=>hk pv w' S' β v hK (h.go l) hr};{exact zBW h1 h2 h h4 q1 q2 q3 q4 q5 q6 q7 q8 q9 fun w' S' β' v hsim hr=>hk _ w' S' β' v q10 hsim hr}}
theorem jK {ops:List Oper}{Q:Exit->Act->World->Prop}{i:Nat}{o:Oper}{a:Act}{w:World}{Km:Act->World->Prop}(ho:ops[i]?=some o) (h:(Region.wanted o (yielded ops.toArray a.tmps)=true/\o.wp Pg a w Km Q)\/(Region.wanted o (yielded ops.toArray a.tmps)=false/\Km (a.put o.dst undef) w)):wpOp Pg ops.toArray Q i Km a w:=by
 unfold wpOp;have:ops.toArray[i]?=some o:=by simpa using ho
 rw[this];rcases h with⟨hw,h⟩|⟨hw,h⟩;{simp only[hw,if_true];exact .inl h};{simp only[hw];exact h}
def Lst (L:Array Bool) (j:Nat):Prop:=L.getD j false=true
theorem xW {L:Array Bool}{i:Nat}(hi:i<L.size)(j:Nat):Lst (L.setIfInBounds i true) j↔Lst L j\/j=i:=by unfold Lst;by_cases e:j=i;{subst e;simp[hi]};{rw[getD_set_ne false (Ne.symm e)];simp[e]}
theorem mZ {ops:List Oper}{k:Nat}(D:DrawOk ops k){Q:Exit->Act->World->Prop}{K:PS->Prop}(hdst:∀ o,o∈ops->d7 N o=true)(hk:∀ ps' a' w' S' β',K ps'->Sim w0 S0 K0 N (zB ps'.tmps) ps'.objs a' w' S' β'->Q .normal a' w'):∀ (fuel m:Nat) (L:Array Bool) {ps:PS} {a:Act} {w:World} {S:Nat->Nat->Prop} {β:Bm},k<=m->m<=ops.length->L.size=ops.length->(∀ j,j<ops.length->(Lst L j↔j<m))->ops.length<=m+fuel ->Sim w0 S0 K0 N (zB ps.tmps) ps.objs a w S β->v8 ops (ops.drop m) ps K->wpAny Pg .any ops.toArray Q fuel L a w:=by
 intro fuel;induction fuel with
 |zero =>
  (intro m L ps a w S β hkm hm hsz hL hf h hs;have hme:m=ops.length:=by omega);have hr:Region.ready .any ops.toArray L=[]:=by
   (rw[List.eq_nil_iff_forall_not_mem];intro i hi;obtain⟨h1,o,h2,_⟩:=mem_ready.1 hi;have hlt:i<ops.length:=by simpa using (Array.getElem?_eq_some_iff.1 h2).1);have:=(hL i hlt).2 (by omega)
   unfold Lst at this;rw[yX (by omega) true false,this] at h1;cases h1
  refine⟨hr,?_⟩;rw[hme,List.drop_length] at hs;exact hk _ _ _ _ _ hs h
 |succ fuel ih =>
  (intro m L ps a w S β hkm hm hsz hL hf h hs;have closed:∀ i o,ops[i]?=some o->Lst L i->fQ (Lst L) o:=by intro i o ho hi e he hb;have hlt:=(List.getElem?_eq_some_iff.1 ho).1;have h1:=D.back i o ho e he hb;have h2:=(hL i hlt).1 hi;exact (hL e.on (by omega)).2 (by omega));refine⟨fun hr=>?_,fun i hi=>?_⟩
  ·by_cases hme:m=ops.length;{rw[hme,List.drop_length] at hs;exact hk _ _ _ _ _ hs h}
   ·(exfalso;have hlt:m<ops.length:=by omega);have hin:m∈Region.ready .any ops.toArray L:=by
     refine mem_ready.2 ⟨?_,ops[m],by simp[hlt],fun e he hb=>?_⟩
     ·rw[yX (by omega) true false];cases hx:L.getD m false with
      |false=>rfl| true=>have:=(hL m hlt).1 hx;omega
     {have h1:=D.back m _ (List.getElem?_eq_getElem hlt) e (by simpa using he) hb;exact (hL e.on (by omega)).2 h1}
    rw[hr] at hin;cases hin
  ·(obtain⟨h1,o,h2,h3⟩:=mem_ready.1 hi;have ho:ops[i]?=some o:=by simpa using h2);have hlt:i<ops.length:=(List.getElem?_eq_some_iff.1 ho).1
   (have him:m<=i:=by rcases Nat.lt_or_ge i m with h'|h';{have:=(hL i hlt).2 h';unfold Lst at this;rw[yX (by omega) true false,this] at h1;cases h1};{exact h'});have hie:i=m:=by rcases Nat.lt_or_ge m i with h'|h';{have hb:=D.rest i m hlt (by omega) h';have:=y8 closed ho (fun e he hb=>h3 e (by simpa using he) hb) hb;have:=(hL m (by omega)).1 this;omega};{omega}
   (subst hie;have hdrop:ops.drop i=o::ops.drop (i+1):=by rw[List.drop_eq_getElem_cons hlt];congr 1;have:=List.getElem?_eq_getElem hlt;rw[this] at ho;exact Option.some.inj ho);rw[hdrop] at hs;simp only[v8] at hs;have hL2:∀ j,j<ops.length->(Lst (L.setIfInBounds i true) j↔j<i+1):=by intro j hj;rw[xW (by omega),hL j hj];omega
   have hdo:=fM (hdst o (List.mem_of_getElem? ho));refine jK ho ?_;rcases uW h.tmp hs with⟨hw,hA⟩|⟨hw,hB⟩;{exact .inl ⟨hw,jG h hA hdo fun ps' a' w' S' β' hK hsim=>by obtain⟨ps'',hK',hsim'⟩:=mQ hsim hK;exact ih (i+1) _ (by omega) (by omega) (by simpa using hsz) hL2 (by omega) hsim' hK'⟩};{exact .inr ⟨hw,ih (i+1) _ (by omega) (by omega) (by simpa using hsz) hL2 (by omega) (x5 h o.dst hdo (aG _ _ _)) hB⟩}
theorem zMG {ops:List Oper}{k:Nat}(D:DrawOk ops k){Q:Exit->Act->World->Prop}{K:PS->Prop}(hdst:∀ o,o∈ops->d7 N o=true)(hk:∀ ps' a' w' S' β',K ps'->Sim w0 S0 K0 N (zB ps'.tmps) ps'.objs a' w' S' β'->Q .normal a' w') {ps ps2:PS} {pvs:List PV} {ms:List (Nat×Obj')} (hkl:k<=ops.length) (hlen:pvs.length=(ops.take k).length) (hK:v8 ops (ops.drop k) ⟨ps2.tmps,ps.objs++ms⟩ K) (hms:∀ x,x∈ms↔∃ i o,i<k/\ops[i]?=some o/\xR o=some x) (hndm:((ps.objs++ms).map Prod.fst).Nodup) (hfr:∀ n x,(n,x)∈ms->n<1000000/\(∀ t,y7 n (zB ps.tmps t)=true)/\(∀ m o,(m,o)∈ps.objs->m≠n/\kX n o)/\(∀ t,t≠n->y7 n (zB ps2.tmps t)=true)) (ht2:zB ps2.tmps=wK (ops.take k) pvs (zB ps.tmps)) (hst:∀ i o pv,(ops.take k)[i]?=some o->pvs[i]?=some pv->c9 true ps.objs ops o (wK ((ops.take k).take i) (pvs.take i) (zB ps.tmps)) pv):∀ (fuel:Nat) (L:Array Bool) {a:Act} {w:World} {S:Nat->Nat->Prop} {β:Bm} {τ:Nat->PV} {objs':List (Nat×Obj')},L.size=ops.length->(∀ j,j<ops.length->k<=j->¬Lst L j)->(∀ i o,ops[i]?=some o->Lst L i->fQ (Lst L) o)->unl L ops.length<=fuel ->Sim w0 S0 K0 N τ objs' a w S β->(∀ x,x∈objs'↔x∈ps.objs\/∃ i o,i<k/\Lst L i/\ops[i]?=some o/\xR o=some x)->At ops k pvs (zB ps.tmps) (Lst L) τ->wpAny Pg .any ops.toArray Q fuel L a w:=by
 have hpl:k<=pvs.length:=by rw[hlen];simp;omega
 intro fuel;induction fuel with
 |zero =>
  intro L a w S β τ objs' hsz hge hcl hun h hin hat;have hall:=c8 (Nat.le_zero.1 hun);have hkn:ops.length<=k:=by rcases Nat.lt_or_ge k ops.length with h'|h';{have h1:=hall k h';rw[yX (by omega) true false] at h1;exact absurd h1 (hge k h' (Nat.le_refl _))};{exact h'}
  (have hk':k=ops.length:=by omega);refine mZ D hdst hk 0 k L (ps:=⟨ps2.tmps,ps.objs++ms⟩) (S:=S) (β:=β) (Nat.le_refl _) hkl hsz (fun j hj=>⟨fun _=>by omega,fun _=>?_⟩) (by omega) ?_ hK
  {have h1:=hall j hj;rw[yX (by omega) true false] at h1;exact h1}
  ·have:τ=zB ps2.tmps:=by
    (funext t;rw[ht2];have htx:=At.text (τ0:=zB ps.tmps) D hlen k (Nat.le_refl _);have e1:(ops.take k).take k=ops.take k:=by rw[List.take_take,Nat.min_self]);have e2:pvs.take k=pvs:=List.take_of_length_le (by rw[hlen];simp;omega)
    rw[e1,e2] at htx;exact hat.same D hpl htx fun j o hj ho hd=>.inl ⟨by have h1:=hall j (by omega);rw[yX (by omega) true false] at h1;exact h1,hj⟩
   show Sim w0 S0 K0 N (zB ps2.tmps) (ps.objs++ms) a w S β;rw[<-this];refine h.perm (fun x=>?_) hndm;rw[List.mem_append,hms x,hin x];refine or_congr Iff.rfl ⟨fun⟨i,o,q1,q2,q3⟩=>⟨i,o,q1,by have h1:=hall i (by omega);rw[yX (by omega) true false] at h1;exact h1,q2,q3⟩,fun⟨i,o,q1,_,q2,q3⟩=>⟨i,o,q1,q2,q3⟩⟩
 |succ fuel ih =>
  intro L a w S β τ objs' hsz hge hcl hun h hin hat;by_cases hfull:∀ j,j<k->Lst L j
  ·refine mZ D hdst hk (fuel+1) k L (ps:=⟨ps2.tmps,ps.objs++ms⟩) (S:=S) (β:=β) (Nat.le_refl _) hkl hsz (fun j hj=>⟨fun hl=>?_,fun hj'=>hfull j hj'⟩) ?_ ?_ hK;{rcases Nat.lt_or_ge j k with h'|h';{exact h'};{exact absurd hl (hge j hj h')}}
   ·have cnt:∀ n,k<=n->n<=ops.length->n<=k+unl L n:=by
     intro n;induction n with
     |zero=>intro _ _;omega| succ n ihn =>
      intro hkn hn;simp only[unl];by_cases hk0:k=n+1;{omega}
      ·(have:=ihn (by omega) (by omega);have hnl:=hge n (by omega) (by omega);have:L.getD n true≠true:=by rw[yX (by omega) true false];exact hnl);rw[if_neg this]
       omega
    have:=cnt ops.length hkl (Nat.le_refl _);omega
   ·have:τ=zB ps2.tmps:=by
     (funext t;rw[ht2];have htx:=At.text (τ0:=zB ps.tmps) D hlen k (Nat.le_refl _);have e1:(ops.take k).take k=ops.take k:=by rw[List.take_take,Nat.min_self]);have e2:pvs.take k=pvs:=List.take_of_length_le (by rw[hlen];simp;omega)
     rw[e1,e2] at htx;exact hat.same D hpl htx fun j o hj ho hd=>.inl ⟨hfull j hj,hj⟩
    show Sim w0 S0 K0 N (zB ps2.tmps) (ps.objs++ms) a w S β;rw[<-this];refine h.perm (fun x=>?_) hndm;rw[List.mem_append,hms x,hin x];exact or_congr Iff.rfl ⟨fun⟨i,o,q1,q2,q3⟩=>⟨i,o,q1,hfull i q1,q2,q3⟩,fun⟨i,o,q1,_,q2,q3⟩=>⟨i,o,q1,q2,q3⟩⟩
  ·have hun0:∃ j,j<k/\¬Lst L j/\∀ i,i<j->Lst L i:=by
    have:∀ n,n<=k->(∀ i,i<n->Lst L i)\/∃ j,j<k/\¬Lst L j/\∀ i,i<j->Lst L i:=by
     intro n;induction n with
     |zero=>intro _;exact .inl fun i h=>by omega| succ n ihn =>
      intro hn;rcases ihn (by omega) with h1|h1;{by_cases hx:Lst L n;{refine .inl fun i hi=>?_;by_cases e:i=n;{exact e ▸ hx};{exact h1 i (by omega)}};{exact .inr ⟨n,by omega,hx,h1⟩}};{exact .inr h1}
    rcases this k (Nat.le_refl _) with h1|h1;{exact absurd h1 hfull};{exact h1}
   obtain⟨j0,hj0,hnj0,hbelow⟩:=hun0;refine⟨fun hr=>?_,fun i hi=>?_⟩
   ·(exfalso;have hlt:j0<ops.length:=by omega);have hin:j0∈Region.ready .any ops.toArray L:=by
     refine mem_ready.2 ⟨?_,ops[j0],by simp[hlt],fun e he hb=>?_⟩
     ·rw[yX (by omega) true false];cases hx:L.getD j0 false with
      |false=>rfl| true=>exact absurd hx hnj0
     {exact hbelow e.on (D.back j0 _ (List.getElem?_eq_getElem hlt) e (by simpa using he) hb)}
    rw[hr] at hin;cases hin
   ·(obtain⟨h1,o,h2,h3⟩:=mem_ready.1 hi;have ho:ops[i]?=some o:=by simpa using h2);have hlt:i<ops.length:=(List.getElem?_eq_some_iff.1 ho).1
    have hE:fQ (Lst L) o:=fun e he hb=>h3 e (by simpa using he) hb;have hik:i<k:=by rcases Nat.lt_or_ge i k with h'|h';{exact h'};{exact absurd (y8 hcl ho hE (D.rest i j0 hlt h' (by omega))) hnj0}
    (have hp:pvs[i]?=some pvs[i]:=List.getElem?_eq_getElem (by omega);have hs0:=hst i o pvs[i] (by rw[List.getElem?_take_of_lt hik];exact ho) hp;have hdo:=fM (hdst o (List.mem_of_getElem? ho));have hsize:i<L.size:=by omega);have hnl:¬Lst L i:=fun hl=>by rw[yX (by omega) true false] at h1;unfold Lst at hl;rw[h1] at hl;exact absurd hl (by decide)
    (have hnext0:∀ {a':Act} {w':World} {S':Nat->Nat->Prop} {β':Bm} {objs2:List (Nat×Obj')},Sim w0 S0 K0 N (upd τ o.dst pvs[i]) objs2 a' w' S' β'->(∀ x,x∈objs2↔x∈objs'\/xR o=some x)->wpAny Pg .any ops.toArray Q fuel (L.setIfInBounds i true) a' w':=by intro a' w' S' β' objs2 hsim hin2;refine ih (L.setIfInBounds i true) (by simpa using hsz) (fun j hj hkj hl=>?_) (fun j oj hoj hl=>?_) ?_ hsim (fun x=>?_) (hat.step D hik ho hp fun j=>xW hsize j);{rcases (xW hsize j).1 hl with hl|hl;{exact hge j hj hkj hl};{omega}};{intro e he hb;rw[xW hsize];rcases (xW hsize j).1 hl with hl|hl;{exact .inl (hcl j oj hoj hl e he hb)};{subst hl;rw[ho] at hoj;cases hoj;exact .inl (hE e he hb)}};{have:=rN h1 hlt;omega};{rw[hin2 x,hin x];constructor;{rintro ((q|⟨j,oj,q1,q2,q3,q4⟩)|q);{exact .inl q};{exact .inr ⟨j,oj,q1,(xW hsize j).2 (.inl q2),q3,q4⟩};{exact .inr ⟨i,o,hik,(xW hsize i).2 (.inr rfl),ho,q⟩}};{rintro (q|⟨j,oj,q1,q2,q3,q4⟩);{exact .inl (.inl q)};{rcases (xW hsize j).1 q2 with q2|q2;{exact .inl (.inr ⟨j,oj,q1,q2,q3,q4⟩)};{subst q2;rw[ho] at q3;cases q3;exact .inr q4}}}});cases hmk:xR o with
    |some dx =>
     obtain⟨d,x⟩:=dx;obtain⟨hgn,hod,t0,hop0,hno0,hx0⟩:=uL hmk;unfold c9 at hs0;rw[hmk] at hs0;have hinms:(d,x)∈ms:=(hms _).2 ⟨i,o,hik,ho,hmk⟩;obtain⟨f1,f2,f3,f4⟩:=hfr d x hinms;have htx:At ops k pvs (zB ps.tmps) (fun j=>j<k) (zB ps2.tmps):=by
      (have htx:=At.text (τ0:=zB ps.tmps) D hlen k (Nat.le_refl _);have e1:(ops.take k).take k=ops.take k:=by rw[List.take_take,Nat.min_self]);have e2:pvs.take k=pvs:=List.take_of_length_le (by rw[hlen];simp;omega)
      rw[e1,e2,<-ht2] at htx;exact htx
     have uniq:∀ j oj,j<k->ops[j]?=some oj->oj.dst=some d->j=i:=fun j oj hj hoj hd' =>
      gL D.dst (by rw[List.getElem?_take_of_lt hj];exact hoj) (by rw[List.getElem?_take_of_lt hik];exact ho) hd' hod
     refine jK ho (.inl ⟨by simp[Region.wanted,hgn],zL9 hmk (hdst o (List.mem_of_getElem? ho)) h f1 (fun t=>?_) (fun {m y} hmy=>?_) fun a' w' β' hsim=>?_⟩);{by_cases hw:∃ j oj,j<k/\Lst L j/\ops[j]?=some oj/\oj.dst=some t;{obtain⟨j,oj,q1,q2,q3,q4⟩:=hw;have hpj:pvs[j]?=some pvs[j]:=List.getElem?_eq_getElem (by omega);rw[hat.hit j oj t _ q1 q2 q3 hpj q4,<-htx.hit j oj t _ q1 q1 q3 hpj q4];refine f4 t fun e=>?_;subst e;exact hnl (uniq j oj q1 q3 q4 ▸ q2)};{rw[hat.miss t fun j oj q1 q2 q3 q4=>hw ⟨j,oj,q1,q2,q3,q4⟩];exact f2 t}};{rcases (hin _).1 hmy with q|⟨j,oj,q1,q2,q3,q4⟩;{exact f3 m y q};{obtain⟨_,hodj,t1,_,hno1,hy1⟩:=uL q4;refine⟨fun e=>?_,?_⟩;{subst e;exact hnl (uniq j oj q1 q3 hodj ▸ q2)};{rw[hy1];exact tD hno1}}};{rw[<-hs0] at hsim;refine hnext0 hsim fun y=>?_;rw[List.mem_append,List.mem_singleton,hmk,Option.some.injEq];exact or_congr Iff.rfl eq_comm}
    |none =>
    (have hs1:x7 true ps.objs ops o (wK ((ops.take k).take i) (pvs.take i) (zB ps.tmps)) pvs[i]:=by unfold c9 at hs0;rw[hmk] at hs0;exact hs0);have hgo:∀ n o,z7 ps.objs n=some o->z7 objs' n=some o:=fun n o hg=>wH h.obj.nd ((hin _).2 (.inl (yW hg)))
    have hs2:x7 true ps.objs ops o τ pvs[i]:=fV (fun t ht=>At.same D hpl (At.text D hlen i (by omega)) hat fun j oj hj hoj hd=>by
     rcases D.look i o t j oj hik hj ho hoj ht hd with⟨q1,q2⟩|⟨q1,q2⟩;{exact .inl ⟨q1,y8 hcl ho hE q2⟩}
     ·refine .inr ⟨by omega,fun hl=>?_⟩;have:=y8 hcl hoj (hcl j oj hoj hl) q2;rw[yX (by omega) true false] at h1;exact absurd this (by unfold Lst;rw[h1];decide)) hs1
    have hnext:∀ {a':Act} {w':World} {S':Nat->Nat->Prop} {β':Bm},Sim w0 S0 K0 N (upd τ o.dst pvs[i]) objs' a' w' S' β'->wpAny Pg .any ops.toArray Q fuel (L.setIfInBounds i true) a' w':=fun hsim =>
     hnext0 hsim fun x=>⟨.inl,fun q=>q.resolve_right (by rw[hmk];simp)⟩
    refine jK ho ?_;rcases uW h.tmp hs2 with⟨hw,hA⟩|⟨hw,hB⟩;{refine .inl ⟨hw,mN h (tF hgo hA) fun pv w' S' β' v hpv l hr=>?_⟩;exact hnext (l.put o.dst hdo (hr.le _ hpv))};{refine .inr ⟨hw,hnext (h.put o.dst hdo ?_)⟩;rw[hB];exact aG _ _ _}
theorem dZ {m n:Nat}{o:Obj'}:∀ {l:List (Nat×Obj')},z7 (xC l m) n=some o->n≠m/\z7 l n=some o
 |[],h=>by simp[xC,z7] at h| (u,v)::r,h=>by
  unfold xC at h;cases hu:nqb u m with
  |true =>
   rw[hu] at h;obtain⟨h1,h2⟩:=dZ h;have hum:=yC hu;refine⟨h1,?_⟩;unfold z7;have:nqb u n=false:=by
    cases hx:nqb u n with
    |false=>rfl| true=>exact absurd ((yC hx).symm.trans hum) h1
   rw[this];exact h2
  |false =>
   rw[hu] at h;unfold z7 at h ⊢;cases hx:nqb u n with
   |true =>
    rw[hx] at h;refine⟨fun e=>?_,h⟩;have:=yC hx;rw[this,e,nqb_self] at hu;cases hu
   |false =>
    rw[hx] at h;exact dZ h
theorem pQ {m n:Nat}{o x:Obj'}(hne:m≠n):∀ {l:List (Nat×Obj')},z7 l n=some o->z7 (setO l m x) n=some o
 |[],h=>by simp[z7] at h| (u,v)::r,h=>by
  unfold setO;cases hu:nqb u m with
  |true =>
   have hum:=yC hu;unfold z7 at h ⊢;have h1:nqb u n=false:=by
    cases hx:nqb u n with
    |false=>rfl| true=>exact absurd (hum.symm.trans (yC hx)) hne
   (have h2:nqb m n=false:=by rw[<-hum];exact h1);rw[h1] at h
   show (match nqb m n with|true=>some x|false=>z7 r n)=some o;rw[h2];exact h
  |false =>
   unfold z7 at h ⊢;show (match nqb u n with|true=>some v|false=>z7 (setO r m x) n)=some o;cases hx:nqb u n with
   |true=>rw[hx] at h;exact h| false=>rw[hx] at h;exact pQ hne h
theorem n8 {objs objs':List (Nat×Obj')}{all:List Oper}{o:Oper}{τ:Nat->PV}{pv:PV}(hx:∀ n o,z7 objs n=some o->z7 objs' n=some o)(h:x7 false objs all o τ pv):x7 false objs' all o τ pv :=
 bW (fun h=>tF hx h) id h
theorem zJE {all:List Oper}{us:List Nat}{n:Nat}{K:PS->Prop}:∀ (l:List Oper) (i:Nat) {ps:PS},usWp all us n l i ps K->∃ pvs ps',pvs.length=l.length/\K ps'/\ps'.objs=ps.objs/\zB ps'.tmps=wK l pvs (zB ps.tmps) /\ ∀ j o pv,l[j]?=some o->pvs[j]?=some pv->x7 false ps.objs all o (wK (l.take j) (pvs.take j) (zB ps.tmps)) pv/\(zY (i+j) us=true->x7 false (xC ps.objs n) all o (wK (l.take j) (pvs.take j) (zB ps.tmps)) pv)
 |[],i,ps,h=>⟨[],ps,rfl,h,rfl,rfl,fun j o pv h=>by simp at h⟩| o::r,i,ps,h=>by
  simp only[usWp] at h;have hdel:∀ m y,z7 (xC ps.objs n) m=some y->z7 ps.objs m=some y:=fun m y q=>(dZ q).2;obtain⟨pv,ps1,h1,ho1,ht1,h2,h3⟩:∃ pv ps1,usWp all us n r (i+1) ps1 K/\ps1.objs=ps.objs/\zB ps1.tmps=upd (zB ps.tmps) o.dst pv/\x7 false ps.objs all o (zB ps.tmps) pv/\(zY i us=true->x7 false (xC ps.objs n) all o (zB ps.tmps) pv):=by
   have fin:∀ (objs:List (Nat×Obj')),objs=(match zY i us with|true=>xC ps.objs n|false=>ps.objs)->∀ pv:PV,x7 false objs all o (zB ps.tmps) pv->x7 false ps.objs all o (zB ps.tmps) pv/\(zY i us=true->x7 false (xC ps.objs n) all o (zB ps.tmps) pv):=fun objs he pv hs=>by
    cases hu:zY i us with
    |true=>rw[hu] at he;simp only at he;subst he;exact⟨n8 hdel hs,fun _=>hs⟩| false=>rw[hu] at he;simp only at he;subst he;exact⟨hs,fun e=>by cases e⟩
   rcases bA h with⟨pv,q1,q2⟩|⟨q1,q2⟩;{obtain⟨pv',ps',g1,g2,g3,g4⟩:=bM q1;exact⟨pv',ps',g2,g3,g4,fin _ rfl _ (q2 pv' g1)⟩};{exact⟨.tup [],_,q1,vQ _ _ _,yY _ _ _,fin _ rfl _ q2⟩}
  obtain⟨pvs,ps',g1,g2,g3,g4,g5⟩:=zJE r (i+1) h1;refine⟨pv::pvs,ps',by simp[g1],g2,g3.trans ho1,by rw[g4,ht1];rfl,fun j o' pv' hj hp=>?_⟩;cases j with
  |zero =>
   simp only[List.getElem?_cons_zero,Option.some.injEq] at hj hp;subst hj hp;exact⟨h2,h3⟩
  |succ j =>
   simp only[List.getElem?_cons_succ] at hj hp;have:=g5 j o' pv' hj hp;rw[ho1,ht1] at this;rw[show i+(j+1)=i+1+j by omega];exact this
theorem zH4 {o:Oper}{ts:TypeId}{ad v:Operand}{T:List (Nat×PV)}{objs:List (Nat×Obj')}{K:PS->Prop}(hop:o.op=.store ts ad v)(hd:o.dst=none)(h:j2 o ⟨T,objs⟩ K){us:List Nat}{nn:Nat}(hto:stTo us nn o ⟨T,objs⟩=true):∃ objs2,(us≠[]->∀ m y,z7 (xC objs nn) m=some y->z7 objs2 m=some y)/\K ⟨T,objs2⟩/\∀ (K':PS->Prop) T',(∀ x,x∈o.op.operands.toList->ev (zB T') x=ev (zB T) x)->K' ⟨T',objs2⟩->j2 o ⟨T',objs⟩ K':=by
 have hev:∀ {T'},(∀ x,x∈o.op.operands.toList->ev (zB T') x=ev (zB T) x)->ev (zB T') ad=ev (zB T) ad/\ev (zB T') v=ev (zB T) v:=fun hx =>
  ⟨hx ad (by simp[hop,Op.operands]),hx v (by simp[hop,Op.operands])⟩
 have hkey:us≠[]->∀ m':Nat,(∀ off,ev (zB T) ad=.ptr m' off->m'=nn)/\(∀ s i off,ev (zB T) ad=.aptr m' s i off->m'=nn):=fun hu m'=>by
  unfold stTo at hto;cases us with
  |nil=>exact absurd rfl hu| cons u r =>
   simp only[hop] at hto;exact⟨fun off e=>by rw[e] at hto;exact yC hto,fun s i off e=>by rw[e] at hto;exact yC hto⟩
 have hag:∀ (m':Nat) (x:Obj'),m'=nn->∀ m y,z7 (xC objs nn) m=some y->z7 (setO objs m' x) m=some y:=fun m' x e m y hm=>by subst e;obtain⟨q1,q2⟩:=dZ hm;exact pQ (fun e=>q1 e.symm) q2
 unfold j2 at h;simp only[hop,hd,put] at h;generalize hea:ev (zB T) ad=ea at *
 generalize hvv:ev (zB T) v=vv at *
 cases ea with
 |ptr n off =>
  simp only at h;cases hg:z7 objs n with
  |none=>simp only[hg] at h| some x =>
   cases x with
   |arr s els=>simp only[hg] at h| log s els=>simp only[hg] at h| lent s els=>simp only[hg] at h| mat s r q=>simp only[hg] at h| box cs =>
    simp only[hg] at h;split at h;{rename_i hc;refine⟨_,fun hu=>hag n _ ((hkey hu n).1 off rfl),h,fun K' T' hx hK=>?_⟩;obtain⟨e1,e2⟩:=hev hx;unfold j2;simp only[hop,hd,put,e1,e2,hg,hc];exact hK};{exact h.elim}
 |aptr n s i off =>
  simp only at h;cases hg:z7 objs n with
  |none=>simp only[hg] at h| some x =>
   cases x with
   |box cs=>simp only[hg] at h| log s els=>simp only[hg] at h| lent s els=>simp only[hg] at h| mat s0 r q =>
    simp only[hg] at h;split at h;{rename_i hc;obtain⟨hs1,v0,k,hs2,g1,g2,g3,g4⟩:=h.h;refine⟨_,fun hu=>hag n _ ((hkey hu n).2 s i off rfl),g4,fun K' T' hx hK=>?_⟩;obtain⟨e1,e2⟩:=hev hx;unfold j2;simp only[hop,hd,put,e1,e2,hg,hc];exact⟨⟨hs1,v0,k,hs2,g1,g2,g3,hK⟩⟩};{exact h.elim}
   |arr s' els =>
    simp only[hg] at h;split at h;{rename_i hc;obtain⟨c,g1,g2,g3,g4⟩:=h.h;refine⟨_,fun hu=>hag n _ ((hkey hu n).2 s i off rfl),g4,fun K' T' hx hK=>?_⟩;obtain⟨e1,e2⟩:=hev hx;unfold j2;simp only[hop,hd,put,e1,e2,hg,hc];exact⟨⟨c,g1,g2,g3,hK⟩⟩};{exact h.elim}
 |_=>simp only at h
theorem mM {objs objs':List (Nat×Obj')}{all:List Oper}{o:Oper}{τ:Nat->PV}{pv:PV}(hb:zHW o=true)(h:x7 false objs all o τ pv):x7 false objs' all o τ pv :=
 bW (fun h=>zDY hb h) id h
theorem nZ:∀ {l1 l2:List Oper} {v1 v2:List PV} {τ:Nat->PV},v1.length=l1.length->wK (l1++l2) (v1++v2) τ=wK l2 v2 (wK l1 v1 τ)
 |[],l2,[],v2,τ,_=>rfl| o::r,l2,v::vs,v2,τ,h=>by simp only[List.cons_append,wK];exact nZ (by simpa using h)| [],l2,v::vs,v2,τ,h=>by simp at h| o::r,l2,[],v2,τ,h=>by simp at h
theorem zN4 {ops:List Oper}{k:Nat}(D:DrawOk ops k){Q:Exit->Act->World->Prop}{K:PS->Prop}(hdst:∀ o,o∈ops->d7 N o=true)(hk:∀ ps' a' w' S' β',K ps'->Sim w0 S0 K0 N (zB ps'.tmps) ps'.objs a' w' S' β'->Q .normal a' w') {T0:List (Nat×PV)} {objs1 objs2:List (Nat×Obj')} {ps2:PS} {pvs:List PV} {i0:Nat} {os:Oper} (hi0:i0<k) (hos:ops[i0]?=some os) (hg:os.guard=none) (hkl:k<=ops.length) (hlen:pvs.length=(ops.take k).length) (hK:v8 ops (ops.drop k) ⟨ps2.tmps,objs2⟩ K) (ht2:zB ps2.tmps=wK (ops.take k) pvs (zB T0)) (hst:∀ i o pv,i<k->i≠i0->ops[i]?=some o->pvs[i]?=some pv->(x7 false objs1 ops o (wK ((ops.take k).take i) (pvs.take i) (zB T0)) pv\/((anc ops).getD i 0).testBit i0=true) /\ (x7 false objs2 ops o (wK ((ops.take k).take i) (pvs.take i) (zB T0)) pv\/((anc ops).getD i0 0).testBit i=true)) (hsto:∀ T,(∀ t,t∈uM ops os->zB T t=wK ((ops.take k).take i0) (pvs.take i0) (zB T0) t)->j2 os ⟨T,objs1⟩ (fun p=>zB p.tmps=upd (zB T) os.dst (pvs.getD i0 .any)/\p.objs=objs2)):∀ (fuel:Nat) (L:Array Bool) {a:Act} {w:World} {S:Nat->Nat->Prop} {β:Bm} {T:List (Nat×PV)} {objs':List (Nat×Obj')},L.size=ops.length->(∀ j,j<ops.length->k<=j->¬Lst L j)->(∀ i o,ops[i]?=some o->Lst L i->fQ (Lst L) o)->unl L ops.length<=fuel ->Sim w0 S0 K0 N (zB T) objs' a w S β->(Lst L i0->objs'=objs2)->(¬Lst L i0->objs'=objs1)->At ops k pvs (zB T0) (Lst L) (zB T)->wpAny Pg .any ops.toArray Q fuel L a w:=by
 have hpl:k<=pvs.length:=by rw[hlen];simp;omega
 have hend:∀ {T:List (Nat×PV)} {L:Array Bool},(∀ j,j<k->Lst L j)->At ops k pvs (zB T0) (Lst L) (zB T)->zB T=zB ps2.tmps:=by
  (intro T L hfull hat;funext t;rw[ht2];have htx:=At.text (τ0:=zB T0) D hlen k (Nat.le_refl _);have e1:(ops.take k).take k=ops.take k:=by rw[List.take_take,Nat.min_self]);have e2:pvs.take k=pvs:=List.take_of_length_le (by rw[hlen];simp;omega)
  rw[e1,e2] at htx;exact hat.same D hpl htx fun j o hj ho hd=>.inl ⟨hfull j hj,hj⟩
 intro fuel;induction fuel with
 |zero =>
  (intro L a w S β T objs' hsz hge hcl hun h hob1 hob2 hat;have hall:=c8 (Nat.le_zero.1 hun);have hall':∀ j,j<ops.length->Lst L j:=fun j hj=>by have h1:=hall j hj;rw[yX (by omega) true false] at h1;exact h1);have hkn:ops.length<=k:=by rcases Nat.lt_or_ge k ops.length with h'|h';{exact absurd (hall' k h') (hge k h' (Nat.le_refl _))};{exact h'}
  (have hk':k=ops.length:=by omega);refine mZ D hdst hk 0 k L (ps:=⟨ps2.tmps,objs2⟩) (S:=S) (β:=β) (Nat.le_refl _) hkl hsz (fun j hj=>⟨fun _=>by omega,fun _=>hall' j hj⟩) (by omega) ?_ hK
  show Sim w0 S0 K0 N (zB ps2.tmps) objs2 a w S β;rw[<-hend (fun j hj=>hall' j (by omega)) hat,<-hob1 (hall' i0 (by omega))];exact h
 |succ fuel ih =>
  intro L a w S β T objs' hsz hge hcl hun h hob1 hob2 hat;by_cases hfull:∀ j,j<k->Lst L j
  ·refine mZ D hdst hk (fuel+1) k L (ps:=⟨ps2.tmps,objs2⟩) (S:=S) (β:=β) (Nat.le_refl _) hkl hsz (fun j hj=>⟨fun hl=>?_,fun hj'=>hfull j hj'⟩) ?_ ?_ hK;{rcases Nat.lt_or_ge j k with h'|h';{exact h'};{exact absurd hl (hge j hj h')}}
   ·have cnt:∀ n,k<=n->n<=ops.length->n<=k+unl L n:=by
     intro n;induction n with
     |zero=>intro _ _;omega| succ n ihn =>
      intro hkn hn;simp only[unl];by_cases hk0:k=n+1;{omega}
      ·(have:=ihn (by omega) (by omega);have hnl:=hge n (by omega) (by omega);have:L.getD n true≠true:=by rw[yX (by omega) true false];exact hnl);rw[if_neg this]
       omega
    have:=cnt ops.length hkl (Nat.le_refl _);omega
   {show Sim w0 S0 K0 N (zB ps2.tmps) objs2 a w S β;rw[<-hend hfull hat,<-hob1 (hfull i0 hi0)];exact h}
  ·have hun0:∃ j,j<k/\¬Lst L j/\∀ i,i<j->Lst L i:=by
    have:∀ n,n<=k->(∀ i,i<n->Lst L i)\/∃ j,j<k/\¬Lst L j/\∀ i,i<j->Lst L i:=by
     intro n;induction n with
     |zero=>intro _;exact .inl fun i h=>by omega| succ n ihn =>
      intro hn;rcases ihn (by omega) with h1|h1;{by_cases hx:Lst L n;{refine .inl fun i hi=>?_;by_cases e:i=n;{exact e ▸ hx};{exact h1 i (by omega)}};{exact .inr ⟨n,by omega,hx,h1⟩}};{exact .inr h1}
    rcases this k (Nat.le_refl _) with h1|h1;{exact absurd h1 hfull};{exact h1}
   obtain⟨j0,hj0,hnj0,hbelow⟩:=hun0;refine⟨fun hr=>?_,fun i hi=>?_⟩
   ·(exfalso;have hlt:j0<ops.length:=by omega);have hin:j0∈Region.ready .any ops.toArray L:=by
     refine mem_ready.2 ⟨?_,ops[j0],by simp[hlt],fun e he hb=>?_⟩
     ·rw[yX (by omega) true false];cases hx:L.getD j0 false with
      |false=>rfl| true=>exact absurd hx hnj0
     {exact hbelow e.on (D.back j0 _ (List.getElem?_eq_getElem hlt) e (by simpa using he) hb)}
    rw[hr] at hin;cases hin
   ·(obtain⟨h1,o,h2,h3⟩:=mem_ready.1 hi;have ho:ops[i]?=some o:=by simpa using h2);have hlt:i<ops.length:=(List.getElem?_eq_some_iff.1 ho).1
    have hE:fQ (Lst L) o:=fun e he hb=>h3 e (by simpa using he) hb;have hik:i<k:=by rcases Nat.lt_or_ge i k with h'|h';{exact h'};{exact absurd (y8 hcl ho hE (D.rest i j0 hlt h' (by omega))) hnj0}
    (have hp:pvs[i]?=some pvs[i]:=List.getElem?_eq_getElem (by omega);have hdo:=fM (hdst o (List.mem_of_getElem? ho));have hsize:i<L.size:=by omega);have hnl:¬Lst L i:=fun hl=>by rw[yX (by omega) true false] at h1;unfold Lst at hl;rw[h1] at hl;exact absurd hl (by decide)
    (have hagree:∀ t,t∈uM ops o->wK ((ops.take k).take i) (pvs.take i) (zB T0) t=zB T t:=fun t ht=>At.same D hpl (At.text D hlen i (by omega)) hat fun j oj hj hoj hd=>by rcases D.look i o t j oj hik hj ho hoj ht hd with⟨q1,q2⟩|⟨q1,q2⟩;{exact .inl ⟨q1,y8 hcl ho hE q2⟩};{refine .inr ⟨by omega,fun hl=>?_⟩;have:=y8 hcl hoj (hcl j oj hoj hl) q2;rw[yX (by omega) true false] at h1;exact absurd this (by unfold Lst;rw[h1];decide)});have hnext:∀ {a':Act} {w':World} {S':Nat->Nat->Prop} {β':Bm} {T':List (Nat×PV)} {objs3:List (Nat×Obj')},zB T'=upd (zB T) o.dst pvs[i]->Sim w0 S0 K0 N (zB T') objs3 a' w' S' β'->(Lst (L.setIfInBounds i true) i0->objs3=objs2)->(¬Lst (L.setIfInBounds i true) i0->objs3=objs1)->wpAny Pg .any ops.toArray Q fuel (L.setIfInBounds i true) a' w':=by intro a' w' S' β' T' objs3 hT hsim g1 g2;refine ih (L.setIfInBounds i true) (by simpa using hsz) (fun j hj hkj hl=>?_) (fun j oj hoj hl=>?_) ?_ hsim g1 g2 (by rw[hT];exact hat.step D hik ho hp fun j=>xW hsize j);{rcases (xW hsize j).1 hl with hl|hl;{exact hge j hj hkj hl};{omega}};{intro e he hb;rw[xW hsize];rcases (xW hsize j).1 hl with hl|hl;{exact .inl (hcl j oj hoj hl e he hb)};{subst hl;rw[ho] at hoj;cases hoj;exact .inl (hE e he hb)}};{have:=rN h1 hlt;omega}
    by_cases hie:i=i0;{subst hie;rw[ho] at hos;cases hos;have hob:objs'=objs1:=hob2 hnl;subst hob;have hs0:=hsto T fun t ht=>(hagree t ht).symm;refine jK ho (.inl ⟨by simp[Region.wanted,hg],jG (ps:=⟨T,objs'⟩) h hs0 hdo fun ps' a' w' S' β' hK hsim=>?_⟩);obtain⟨hK1,hK2⟩:=hK;refine hnext (T':=ps'.tmps) (objs3:=ps'.objs) ?_ hsim (fun _=>hK2) (fun hn=>absurd ((xW hsize i).2 (.inr rfl)) hn);rw[hK1,List.getD_eq_getElem?_getD,hp];rfl}
    ·(obtain⟨hA1,hA2⟩:=hst i o _ hik hie ho hp;have hsame:(Lst (L.setIfInBounds i true) i0↔Lst L i0):=by rw[xW hsize];exact⟨fun q=>q.resolve_right fun e=>hie e.symm,.inl⟩);have hs1:x7 false objs' ops o (wK ((ops.take k).take i) (pvs.take i) (zB T0)) pvs[i]:=by by_cases hl0:Lst L i0;{rw[hob1 hl0];rcases hA2 with q|q;{exact q};{exact absurd (y8 hcl hos (hcl i0 os hos hl0) q) hnl}};{rw[hob2 hl0];rcases hA1 with q|q;{exact q};{exact absurd (y8 hcl ho hE q) hl0}}
     have hs2:x7 false objs' ops o (zB T) pvs[i]:=fV hagree hs1;refine jK ho ?_;rcases uW h.tmp hs2 with⟨hw,hA⟩|⟨hw,hB⟩;{refine .inl ⟨hw,sL h hA fun pv w' S' v hpv l hr=>?_⟩;refine hnext (S':=S') (β':=β) (T':=(put ⟨T,[]⟩ o.dst pvs[i]).tmps) (yY _ _ _) ?_ (fun q=>hob1 (hsame.1 q)) (fun q=>hob2 fun q'=>q (hsame.2 q'));rw[yY];exact (h.go l).put o.dst hdo (hr.le _ hpv)};{refine .inr ⟨hw,hnext (S':=S) (β':=β) (T':=(put ⟨T,[]⟩ o.dst pvs[i]).tmps) (yY _ _ _) ?_ (fun q=>hob1 (hsame.1 q)) (fun q=>hob2 fun q'=>q (hsame.2 q'))⟩;rw[yY];refine h.put o.dst hdo ?_;rw[hB];exact aG _ _ _}
theorem sD:∀ {l:List Oper} {x:Nat×Obj'},x∈yO l↔∃ (i:Nat) (o:Oper),l[i]?=some o/\xR o=some x
 |[],x=>by simp[yO]| o::r,x=>by
  have ih:=@sD r x;unfold yO;constructor;{intro h;split at h;{rename_i y hy;rcases List.mem_cons.1 h with h|h;{exact⟨0,o,rfl,by rw[h];exact hy⟩};{obtain⟨i,o',q1,q2⟩:=ih.1 h;exact⟨i+1,o',by simpa using q1,q2⟩}};{obtain⟨i,o',q1,q2⟩:=ih.1 h;exact⟨i+1,o',by simpa using q1,q2⟩}}
  ·rintro⟨i,o',q1,q2⟩;cases i with
   |zero =>
    simp only[List.getElem?_cons_zero,Option.some.injEq] at q1;subst q1;rw[q2];exact List.mem_cons_self
   |succ i =>
    have:=ih.2 ⟨i,o',by simpa using q1,q2⟩;split;{exact List.mem_cons_of_mem _ this};{exact this}
theorem pH {ops:List Oper}{k:Nat}{x:Nat×Obj'}:x∈yO (ops.take k)↔∃ i o,i<k/\ops[i]?=some o/\xR o=some x:=by
 rw[sD];constructor
 ·(rintro⟨i,o,q1,q2⟩;have hlt:i<k:=by have:=(List.getElem?_eq_some_iff.1 q1).1;simp at this;omega);exact⟨i,o,hlt,by rwa [List.getElem?_take_of_lt hlt] at q1,q2⟩
 {rintro⟨i,o,q0,q1,q2⟩;exact⟨i,o,by rw[List.getElem?_take_of_lt q0];exact q1,q2⟩}
theorem bQ {ps:PS}:∀ {l:List (Nat×Obj')} {n:Nat} {o:Obj'},mkIn ps l=true->(n,o)∈l->yE n ps=true
 |[],n,o,_,h=>by simp at h| (m,x)::r,n,o,hm,h=>by simp only[mkIn,Bool.and_eq_true] at hm;rcases List.mem_cons.1 h with h|h;{cases h;exact hm.1};{exact bQ hm.2 h}
theorem t6 {T:List (Nat×PV)}:∀ {l:List (Nat×Obj')} {n:Nat} {o:Obj'},iC T l=true->(n,o)∈l->mfT n T=true
 |[],n,o,_,h=>by simp at h| (m,x)::r,n,o,hm,h=>by simp only[iC,Bool.and_eq_true] at hm;rcases List.mem_cons.1 h with h|h;{cases h;exact hm.1};{exact t6 hm.2 h}
theorem iD {n t:Nat}(ht:t≠n):∀ {T:List (Nat×PV)},mfT n T=true->y7 n (zB T t)=true
 |[],_=>rfl| (u,v)::r,h=>by
  simp only[mfT,Bool.and_eq_true] at h;unfold zB;cases hu:nqb u t with
  |true =>
   (have:=yC hu;subst this;have hne:(u == n)=false:=by simpa using ht);rw[hne] at h
   exact h.1
  |false=>exact iD ht h.2
theorem o8:∀ l:List PV,x6 (fun v=>v) l=l
 |[]=>rfl| v::r=>by unfold x6;rw[o8 r]
theorem o4:∀ l:List (Nat×PV),xY (fun v=>v) l=l
 |[]=>rfl| (t,v)::r=>by unfold xY;rw[o4 r]
theorem o6:∀ l:List (PV×(Unit->Nat)),qH (fun v=>v) l=l
 |[]=>rfl| (v,k)::r=>by unfold qH;rw[o6 r]
theorem zD8 (o:Obj'):xD (fun v=>v) o=o:=by
 cases o with
 |box cs=>simp only[xD,o8]| mat s r q=>simp only[xD,o6]| _=>rfl
theorem o5:∀ l:List (Nat×Obj'),yS (fun v=>v) l=l
 |[]=>rfl| (n,o)::r=>by
  (have e:yS (fun v=>v) ((n,o)::r)=(n,xD (fun v=>v) o)::yS (fun v=>v) r:=by cases o <;> rfl);rw[e,o5 r,zD8]
theorem zAF {n:Nat}{o:Obj'}:∀ (M:List Nat) {l:List (Nat×Obj')},z7 (qB M l) n=some o->zY n M=false/\z7 l n=some o
 |[],l,h=>⟨rfl,h⟩| m::r,l,h=>by
  unfold qB at h;obtain⟨h1,h2⟩:=zAF r h;obtain⟨h3,h4⟩:=dZ h2;refine⟨?_,h4⟩;unfold zY;rw[h1];cases hx:nqb m n with
  |false=>rfl| true=>exact absurd (yC hx).symm h3
theorem j8:∀ {l:List (Nat×Obj')} {n:Nat} {x:Obj'},n∈l.map Prod.fst->(n,x)∈setO l n x
 |(u,v)::r,n,x,hn=>by
  unfold setO;cases hu:nqb u n with
  |true=>exact List.mem_cons_self| false =>
   (have hne:u≠n:=fun e=>by subst e;simp at hu);have hn':n∈r.map Prod.fst:=by simp only[List.map_cons,List.mem_cons] at hn;exact hn.resolve_left fun e=>hne e.symm
   exact List.mem_cons_of_mem _ (j8 hn')
 |[],n,x,hn=>by simp at hn
theorem pD:∀ {l:List (Nat×Obj')} {n m:Nat} {x o:Obj'},m≠n->(m,o)∈l->(m,o)∈setO l n x
 |(u,v)::r,n,m,x,o,hne,h=>by
  unfold setO;cases hu:nqb u n with
  |true =>
   have:=yC hu;rcases List.mem_cons.1 h with h|h;{cases h;exact absurd this hne};{exact List.mem_cons_of_mem _ h}
  |false =>
   rcases List.mem_cons.1 h with h|h;{rw[h];exact List.mem_cons_self};{exact List.mem_cons_of_mem _ (pD hne h)}
 |[],n,m,x,o,hne,h=>by simp at h
theorem pE {l:List (Nat×Obj')}{n m:Nat}{x o:Obj'}(hnd:(l.map Prod.fst).Nodup)(hn:n∈l.map Prod.fst):(m,o)∈setO l n x↔(m=n/\o=x)\/(m≠n/\(m,o)∈l) :=
 ⟨xK hnd hn,fun h=>by
  rcases h with⟨rfl,rfl⟩|⟨h1,h2⟩;{exact j8 hn}
  ·exact pD h1 h2⟩
theorem qT:∀ (l r:List Oper),yO (l++r)=yO l++yO r
 |[],r=>rfl| o::l,r=>by
  simp only[List.cons_append,yO];cases xR o with
  |none=>exact qT l r| some x=>simp only[List.cons_append,qT l r]
theorem uV:∀ {es:List (Nat×Nat)} {i n:Nat},yK es i=some n->(i,n)∈es
 |(a,b)::r,i,n,h=>by
  unfold yK at h;cases ha:nqb a i with
  |true =>
   rw[ha] at h;have:=yC ha;cases h;subst this;exact List.mem_cons_self
  |false=>rw[ha] at h;exact List.mem_cons_of_mem _ (uV h)
 |[],i,n,h=>by simp[yK] at h
theorem dQ:∀ {l:List Nat} {n:Nat},n∈l->zY n l=true
 |m::r,n,h=>by unfold zY;rcases List.mem_cons.1 h with rfl|h;{simp};{rw[dQ h];simp}
 |[],n,h=>by simp at h
theorem lB:∀ {es:List (Nat×Nat)} {i n:Nat},(i,n)∈es->n∈vP es
 |(a,b)::r,i,n,h=>by unfold vP;rcases List.mem_cons.1 h with h|h;{cases h;exact List.mem_cons_self};{exact List.mem_cons_of_mem _ (lB h)}
 |[],i,n,h=>by simp at h
theorem t8:∀ {es:List (Nat×Nat)} {i j n:Nat},zEO (vP es)=true->yK es i=some n->yK es j=some n->i=j
 |(a,b)::r,i,j,n,hd,h1,h2=>by
  (unfold vP zEO at hd;simp only[Bool.and_eq_true,Bool.not_eq_true'] at hd;unfold yK at h1 h2;have bad:∀ {x},yK r x=some b->False:=fun h=>by rw[dQ (lB (uV h))] at hd;cases hd.1);cases ha:nqb a i with
  |true =>
   rw[ha] at h1;cases h1;cases hb:nqb a j with
   |true=>exact (yC ha).symm.trans (yC hb)| false=>rw[hb] at h2;exact (bad h2).elim
  |false =>
   rw[ha] at h1;cases hb:nqb a j with
   |true=>rw[hb] at h2;cases h2;exact (bad h1).elim
   |false=>rw[hb] at h2;exact t8 hd.2 h1 h2
 |[],i,j,n,_,h1,_=>by simp[yK] at h1
theorem iB:∀ {ms:List (Nat×Obj')} {cs:List PV},zB3 ms cs=true->∀ d y,(d,y)∈ms->xT d cs=true
 |(a,b)::r,cs,h,d,y,hm=>by unfold zB3 at h;simp only[Bool.and_eq_true] at h;rcases List.mem_cons.1 hm with hm|hm;{cases hm;exact h.1};{exact iB h.2 d y hm}
 |[],cs,h,d,y,hm=>by simp at hm
theorem pI {ops:List Oper}{o:Oper}{T:List (Nat×PV)}{τ:Nat->PV}(hg:o.guard=none)(h:∀ t,t∈uM ops o->zB T t=τ t):∀ x,x∈o.op.operands.toList->ev (zB T) x=ev τ x:=fun x hx=>by
 cases x with
 |tmp t =>
  show zB T t=τ t;refine h t ?_;unfold uM;rw[hg];refine List.mem_append_left _ ?_;rw[List.mem_filterMap];exact⟨_,hx,rfl⟩
 |_=>rfl
inductive EfStep (ops:List Oper) (es:List (Nat×Nat)) (ms lim:List (Nat×Obj')) (i:Nat) (o:Oper) (τ:Nat->PV) (pv:PV) (O O':List (Nat×Obj')):Prop
 |mk {d x} (h:xR o=some (d,x)) (hp:pv=.ptr d 0) (hO:O'=O++[(d,x)])
 |eff {n x x0} (hm:xR o=none) (he:yK es i=some n) (h0:z7 O n=some x0) (hfree:∀ d y,(d,y)∈ms->kX d x) (hg:o.guard=none)
   (hgo:∀ (T':List (Nat×PV)) (O1:List (Nat×Obj')),(∀ t,t∈uM ops o->zB T' t=τ t)->z7 O1 n=some x0->j2 o ⟨T',O1⟩ (fun p=>zB p.tmps=upd (zB T') o.dst pv/\p.objs=setO O1 n x)) (hO:O'=setO O n x)
 |pure (hm:xR o=none) (he:yK es i=none) (h:x7 true lim ops o τ pv) (hO:O'=O)
theorem zLO {ops:List Oper}{ms:List (Nat×Obj')}{o:Oper}{n:Nat}{T:List (Nat×PV)}{O:List (Nat×Obj')}{K:PV->Obj'->Prop}(h:eff1 ms o n T O K):∃ pv x x0,K pv x/\z7 O n=some x0/\(∀ d y,(d,y)∈ms->kX d x)/\o.guard=none /\ ∀ (T':List (Nat×PV)) (O1:List (Nat×Obj')),(∀ t,t∈uM ops o->zB T' t=zB T t)->z7 O1 n=some x0->j2 o ⟨T',O1⟩ (fun p=>zB p.tmps=upd (zB T') o.dst pv/\p.objs=setO O1 n x):=by
 unfold eff1 at h;cases hg:o.guard with
 |some g=>rw[hg] at h;exact h.elim| none =>
 rw[hg] at h;simp only at h;cases hop:o.op with
 |store t a v =>
  rw[hop] at h;simp only at h;cases hd:o.dst with
  |some d=>rw[hd] at h;exact h.elim| none =>
   rw[hd] at h;simp only at h;cases hea:ev (zB T) a with
   |ptr m off =>
    rw[hea] at h;simp only at h;cases hmn:nqb m n with
    |false=>rw[hmn] at h;exact h.elim| true =>
     rw[hmn] at h;simp only at h;have:=yC hmn;subst this;cases hgo:z7 O m with
     |none=>rw[hgo] at h;exact h.elim| some x0 =>
      rw[hgo] at h;cases x0 with
      |arr s e=>exact h.elim| log s e=>exact h.elim| lent s e=>exact h.elim| mat s r q=>exact h.elim| box cs =>
       simp only at h;split at h;{rename_i hc;simp only[Bool.and_eq_true] at hc;refine⟨_,_,_,h,rfl,fun d y hy=>iB hc.2 d y hy,rfl,fun T' O1 hT hO=>?_⟩;have hev:=pI hg hT;have e1:ev (zB T') a=.ptr m off:=(hev a (by simp[hop,Op.operands])).trans hea;have e2:ev (zB T') v=ev (zB T) v:=hev v (by simp[hop,Op.operands]);have hc':=hc.1;unfold j2;simp only[hop,e1,e2,hO];rw[show (nqb (yF (ev (zB T) v)).length (ty t).cells&&nle (off+(ty t).cells) cs.length&&nlt 0 (ty t).cells&&yN cO (yF (ev (zB T) v)))=true by simp only[Bool.and_eq_true];exact hc'];simp only[hd,put];refine⟨?_,?_⟩ <;> first|rfl|trivial};{exact h.elim}
   |_=>rw[hea] at h;exact h.elim
 |call c =>
  rw[hop] at h;simp only at h;cases hcl:c.callee with
  |value g =>
   rw[hcl] at h;simp only at h;obtain⟨f,caps,hn,cargs,m,x,r,x',E1,E2,E3,E4,E5,E6,E7,E8,E9,E10,E11⟩:=h.h;refine⟨_,_,_,E11,E5,fun d y _=>?_,rfl,fun T' O1 hT hO=>?_⟩
   ·cases x' with
    |box cs=>exact oP d E7| arr s e=>trivial| log s e=>trivial| lent s e=>trivial| mat s r q =>
     cases q with
     |nil=>rfl| cons x y=>cases E7
   {have hev:=pI hg hT;have hargs:∀ x,x∈c.args.toList->ev (zB T') x=ev (zB T) x:=fun x hx=>hev x (by rw[hop];simp only[Op.operands,Call.operands,Array.toList_append,List.mem_append];exact .inr hx);have hf:ev (zB T') g=ev (zB T) g:=hev g (by simp[hop,Op.operands,Call.operands,hcl]);subst E4;unfold j2;simp only[hop,hcl];refine⟨⟨T',O1⟩,.refl _,f,caps,by rw[hf];exact E1,.inr ⟨hn,cargs,[(m,x)],[],r,[(m,x')],[],?_,E3,⟨⟨by rw[eG E6];exact hO,m5 E6⟩,trivial⟩,rfl,rfl,?_,rfl,rfl,E8,E9,E10,?_,?_⟩⟩;{rw[d6 hargs];exact E2};{show ((j4 x'&&nmOb [m] x')&&true)=true;rw[m5 E7,zHK E7];rfl};{rw[yY];show upd (zB (xY (fun v=>v) T')) o.dst _=_;rw[o4]};{rw[vQ];show setO (yS (fun v=>v) O1) (hn m) (xD (ren hn) x')++[]=_;rw[o5,List.append_nil,eG E7]}}
  |_=>rw[hcl] at h;exact h.elim
 |_=>rw[hop] at h;exact h.elim
theorem zJ1 {ops:List Oper}{es:List (Nat×Nat)}{ms lim:List (Nat×Obj')}{K:List (Nat×PV)->List (Nat×Obj')->Prop}:∀ (l:List Oper) (i:Nat) {T:List (Nat×PV)} {O:List (Nat×Obj')},efWp ops es ms lim l i T O K ->∃ (pvs:List PV) (Ob:Nat->List (Nat×Obj')) (T':List (Nat×PV)),pvs.length=l.length/\Ob 0=O/\K T' (Ob l.length)/\zB T'=wK l pvs (zB T) /\ ∀ j o pv,l[j]?=some o->pvs[j]?=some pv->EfStep ops es ms lim (i+j) o (wK (l.take j) (pvs.take j) (zB T)) pv (Ob j) (Ob (j+1))
 |[],i,T,O,h=>⟨[],fun _=>O,T,rfl,rfl,h,rfl,fun j o pv h=>by simp at h⟩| o::r,i,T,O,h=>by
  obtain⟨pv,O1,T1,h1,ht1,hst⟩:∃ pv O1 T1,efWp ops es ms lim r (i+1) T1 O1 K/\zB T1=upd (zB T) o.dst pv/\EfStep ops es ms lim i o (zB T) pv O O1:=by
   unfold efWp at h;cases hm:xR o with
   |some dx =>
    obtain⟨d,x⟩:=dx;rw[hm] at h;simp only at h;obtain⟨_,hd,_⟩:=uL hm;exact⟨.ptr d 0,_,_,h,by rw[hd];funext t;simp[upd,jV],.mk hm rfl rfl⟩
   |none =>
    rw[hm] at h;simp only at h;cases he:yK es i with
    |some n =>
     rw[he] at h;simp only at h;obtain⟨pv,x,x0,h1,h2,h3,h4,h5⟩:=zLO (ops:=ops) h;exact⟨pv,_,_,h1,yY _ _ _,.eff hm he h2 h3 h4 h5 rfl⟩
    |none =>
     rw[he] at h;simp only at h;rcases bA h with⟨pv,q1,q2⟩|⟨q1,q2⟩;{obtain⟨pv',p,g1,g2,g3,g4⟩:=bM q1;exact⟨pv',O,p.tmps,g2,g4,.pure hm he (q2 pv' g1) rfl⟩};{exact⟨.tup [],O,_,q1,yY _ _ _,.pure hm he q2 rfl⟩}
  obtain⟨pvs,Ob,T',g1,g2,g3,g4,g5⟩:=zJ1 r (i+1) h1;refine⟨pv::pvs,fun j=>match j with|0=>O|j+1=>Ob j,T',by simp[g1],rfl,by simpa using g3,by rw[g4,ht1];rfl,fun j o' pv' hj hp=>?_⟩;cases j with
  |zero =>
   simp only[List.getElem?_cons_zero,Option.some.injEq] at hj hp;subst hj hp;show EfStep ops es ms lim i o _ pv O (Ob 0);rw[g2];exact hst
  |succ j =>
   simp only[List.getElem?_cons_succ] at hj hp;have:=g5 j o' pv' hj hp;rw[ht1] at this;rw[show i+(j+1)=i+1+j by omega];exact this
def EMem (ops:List Oper) (es:List (Nat×Nat)) (k:Nat) (O0:List (Nat×Obj')) (X:Nat->Obj') (L:Nat->Prop) (y:Nat×Obj'):Prop :=
 ((y∈O0\/∃ j oj,j<k/\L j/\ops[j]?=some oj/\xR oj=some y)/\¬∃ i,i<k/\yK es i=some y.1/\L i)\/(∃ i,i<k/\yK es i=some y.1/\L i/\X i=y.2)
section
variable {ops:List Oper} {es:List (Nat×Nat)} {k:Nat} {O0:List (Nat×Obj')} {X:Nat->Obj'} {L L':Nat->Prop}
theorem EMem.pure {i:Nat}{o:Oper}(ho:ops[i]?=some o)(hm:xR o=none)(he:yK es i=none)(hL':∀ j,L' j↔L j\/j=i)(y:Nat×Obj'):EMem ops es k O0 X L' y↔EMem ops es k O0 X L y:=by
 have h1:(∃ j oj,j<k/\L' j/\ops[j]?=some oj/\xR oj=some y)↔∃ j oj,j<k/\L j/\ops[j]?=some oj/\xR oj=some y:=by constructor;{rintro⟨j,oj,q1,q2,q3,q4⟩;rcases (hL' j).1 q2 with q|q;{exact⟨j,oj,q1,q,q3,q4⟩};{subst q;rw[ho] at q3;cases q3;rw[hm] at q4;cases q4}};{rintro⟨j,oj,q1,q2,q3,q4⟩;exact⟨j,oj,q1,(hL' j).2 (.inl q2),q3,q4⟩}
 have h2:∀ P:Nat->Prop,(∃ j,j<k/\yK es j=some y.1/\L' j/\P j)↔∃ j,j<k/\yK es j=some y.1/\L j/\P j:=by intro P;constructor;{rintro⟨j,q1,q2,q3,q4⟩;rcases (hL' j).1 q3 with q|q;{exact⟨j,q1,q2,q,q4⟩};{subst q;rw[he] at q2;cases q2}};{rintro⟨j,q1,q2,q3,q4⟩;exact⟨j,q1,q2,(hL' j).2 (.inl q3),q4⟩}
 have h3:(∃ i,i<k/\yK es i=some y.1/\L' i)↔∃ i,i<k/\yK es i=some y.1/\L i:=by simpa using h2 (fun _=>True)
 unfold EMem;rw[h1,h2,h3]
theorem EMem.mk {i:Nat}{o:Oper}{d:Nat}{x:Obj'}(ho:ops[i]?=some o)(hik:i<k)(hm:xR o=some (d,x))(he:yK es i=none)(hno:∀ j,j<k->yK es j=some d->¬L j)(hL':∀ j,L' j↔L j\/j=i)(y:Nat×Obj'):EMem ops es k O0 X L' y↔EMem ops es k O0 X L y\/y=(d,x):=by
 have h1:(∃ j oj,j<k/\L' j/\ops[j]?=some oj/\xR oj=some y)↔(∃ j oj,j<k/\L j/\ops[j]?=some oj/\xR oj=some y)\/y=(d,x):=by constructor;{rintro⟨j,oj,q1,q2,q3,q4⟩;rcases (hL' j).1 q2 with q|q;{exact .inl ⟨j,oj,q1,q,q3,q4⟩};{subst q;rw[ho] at q3;cases q3;rw[hm] at q4;cases q4;exact .inr rfl}};{rintro (⟨j,oj,q1,q2,q3,q4⟩|q);{exact⟨j,oj,q1,(hL' j).2 (.inl q2),q3,q4⟩};{exact⟨i,o,hik,(hL' i).2 (.inr rfl),ho,by rw[hm,q]⟩}}
 have h2:∀ P:Nat->Prop,(∃ j,j<k/\yK es j=some y.1/\L' j/\P j)↔∃ j,j<k/\yK es j=some y.1/\L j/\P j:=by intro P;constructor;{rintro⟨j,q1,q2,q3,q4⟩;rcases (hL' j).1 q3 with q|q;{exact⟨j,q1,q2,q,q4⟩};{subst q;rw[he] at q2;cases q2}};{rintro⟨j,q1,q2,q3,q4⟩;exact⟨j,q1,q2,(hL' j).2 (.inl q3),q4⟩}
 have h3:(∃ i,i<k/\yK es i=some y.1/\L' i)↔∃ i,i<k/\yK es i=some y.1/\L i:=by simpa using h2 (fun _=>True)
 have h4:y=(d,x)->¬∃ i,i<k/\yK es i=some y.1/\L i:=by rintro rfl ⟨j,q1,q2,q3⟩;exact hno j q1 q2 q3
 unfold EMem;rw[h1,h2,h3];constructor;{rintro (⟨q1|q1|q1,q2⟩|q);{exact .inl (.inl ⟨.inl q1,q2⟩)};{exact .inl (.inl ⟨.inr q1,q2⟩)};{exact .inr q1};{exact .inl (.inr q)}};{rintro ((⟨q1|q1,q2⟩|q)|q);{exact .inl ⟨.inl q1,q2⟩};{exact .inl ⟨.inr (.inl q1),q2⟩};{exact .inr q};{exact .inl ⟨.inr (.inr q),h4 q⟩}}
theorem EMem.eff {i:Nat}{o:Oper}{n:Nat}(hinj:∀ {i j n},yK es i=some n->yK es j=some n->i=j)(ho:ops[i]?=some o)(hik:i<k)(hm:xR o=none)(he:yK es i=some n)(hL':∀ j,L' j↔L j\/j=i)(y:Nat×Obj'):EMem ops es k O0 X L' y↔(y.1=n/\y.2=X i)\/(y.1≠n/\EMem ops es k O0 X L y):=by
 have h1:(∃ j oj,j<k/\L' j/\ops[j]?=some oj/\xR oj=some y)↔∃ j oj,j<k/\L j/\ops[j]?=some oj/\xR oj=some y:=by constructor;{rintro⟨j,oj,q1,q2,q3,q4⟩;rcases (hL' j).1 q2 with q|q;{exact⟨j,oj,q1,q,q3,q4⟩};{subst q;rw[ho] at q3;cases q3;rw[hm] at q4;cases q4}};{rintro⟨j,oj,q1,q2,q3,q4⟩;exact⟨j,oj,q1,(hL' j).2 (.inl q2),q3,q4⟩}
 by_cases hy:y.1=n;{have h2:∀ j,yK es j=some y.1->j=i:=fun j hj=>hinj (by rw[hy] at hj;exact hj) he;unfold EMem;constructor;{rintro (⟨_,q⟩|⟨j,q1,q2,q3,q4⟩);{exact absurd ⟨i,hik,by rw[hy];exact he,(hL' i).2 (.inr rfl)⟩ q};{have:=h2 j q2;subst this;exact .inl ⟨hy,q4.symm⟩}};{rintro (⟨_,q⟩|⟨q,_⟩);{exact .inr ⟨i,hik,by rw[hy];exact he,(hL' i).2 (.inr rfl),q.symm⟩};{exact absurd hy q}}}
 ·have h2:∀ P:Nat->Prop,(∃ j,j<k/\yK es j=some y.1/\L' j/\P j)↔∃ j,j<k/\yK es j=some y.1/\L j/\P j:=by intro P;constructor;{rintro⟨j,q1,q2,q3,q4⟩;rcases (hL' j).1 q3 with q|q;{exact⟨j,q1,q2,q,q4⟩};{subst q;rw[he] at q2;cases q2;exact absurd rfl hy}};{rintro⟨j,q1,q2,q3,q4⟩;exact⟨j,q1,q2,(hL' j).2 (.inl q3),q4⟩}
  (have h3:(∃ i,i<k/\yK es i=some y.1/\L' i)↔∃ i,i<k/\yK es i=some y.1/\L i:=by simpa using h2 (fun _=>True));unfold EMem
  rw[h1,h2,h3];constructor;{intro q;exact .inr ⟨hy,q⟩};{rintro (⟨q,_⟩|⟨_,q⟩);{exact absurd q hy};{exact q}}
end
theorem zN6 {ops:List Oper}{k:Nat}(D:DrawOk ops k){Q:Exit->Act->World->Prop}{K:PS->Prop}(hdst:∀ o,o∈ops->d7 N o=true)(hk:∀ ps' a' w' S' β',K ps'->Sim w0 S0 K0 N (zB ps'.tmps) ps'.objs a' w' S' β'->Q .normal a' w') {T0 T2:List (Nat×PV)} {O0 O2:List (Nat×Obj')} {pvs:List PV} {es:List (Nat×Nat)} {ms lim:List (Nat×Obj')} {X:Nat->Obj'} {Ob:Nat->List (Nat×Obj')} (hkl:k<=ops.length) (hlen:pvs.length=(ops.take k).length) (hK:v8 ops (ops.drop k) ⟨T2,O2⟩ K) (ht2:zB T2=wK (ops.take k) pvs (zB T0)) (hO2:∀ y,y∈O2↔EMem ops es k O0 X (fun j=>j<k) y) (hnd2:(O2.map Prod.fst).Nodup) (hms:∀ x,x∈ms↔∃ i o,i<k/\ops[i]?=some o/\xR o=some x) (hfr:∀ n x,(n,x)∈ms->n<1000000/\(∀ t,y7 n (zB T0 t)=true)/\(∀ m o,(m,o)∈O0->m≠n/\kX n o)/\(∀ t,t≠n->y7 n (zB T2 t)=true)) (hlim:∀ n o,z7 lim n=some o->(n,o)∈O0/\∀ i,yK es i≠some n) (hinj:∀ {i j n},yK es i=some n->yK es j=some n->i=j) (hmkE:∀ i o x,ops[i]?=some o->xR o=some x->yK es i=none) (hanc:∀ i n j oj x,i<k->yK es i=some n->j<k->ops[j]?=some oj->xR oj=some (n,x)->((anc ops).getD i 0).testBit j=true) (hOb:∀ i,i<k->∀ y,y∈Ob i↔EMem ops es k O0 X (fun j=>j<i) y) (hst:∀ i o pv,(ops.take k)[i]?=some o->pvs[i]?=some pv->EfStep ops es ms lim i o (wK ((ops.take k).take i) (pvs.take i) (zB T0)) pv (Ob i) (Ob (i+1))) (hX:∀ i n x,i<k->yK es i=some n->(n,x)∈Ob (i+1)->X i=x) (hXin:∀ i n x0 x,z7 (Ob i) n=some x0->(n,x)∈setO (Ob i) n x):∀ (fuel:Nat) (L:Array Bool) {a:Act} {w:World} {S:Nat->Nat->Prop} {β:Bm} {T:List (Nat×PV)} {objs':List (Nat×Obj')},L.size=ops.length->(∀ j,j<ops.length->k<=j->¬Lst L j)->(∀ i o,ops[i]?=some o->Lst L i->fQ (Lst L) o)->unl L ops.length<=fuel ->Sim w0 S0 K0 N (zB T) objs' a w S β->(∀ y,y∈objs'↔EMem ops es k O0 X (Lst L) y)->At ops k pvs (zB T0) (Lst L) (zB T)->wpAny Pg .any ops.toArray Q fuel L a w:=by
 have hpl:k<=pvs.length:=by rw[hlen];simp;omega
 have htx:At ops k pvs (zB T0) (fun j=>j<k) (zB T2):=by
  (have htx:=At.text (τ0:=zB T0) D hlen k (Nat.le_refl _);have e1:(ops.take k).take k=ops.take k:=by rw[List.take_take,Nat.min_self]);have e2:pvs.take k=pvs:=List.take_of_length_le (by rw[hlen];simp;omega)
  rw[e1,e2,<-ht2] at htx;exact htx
 have hend:∀ {T:List (Nat×PV)} {L:Array Bool},(∀ j,j<k->Lst L j)->At ops k pvs (zB T0) (Lst L) (zB T)->zB T=zB T2:=by intro T L hfull hat;funext t;exact hat.same D hpl htx fun j o hj ho hd=>.inl ⟨hfull j hj,hj⟩
 have hEx:∀ {L:Array Bool},(∀ j,j<k->Lst L j)->∀ y,EMem ops es k O0 X (Lst L) y↔EMem ops es k O0 X (fun j=>j<k) y:=by
  (intro L hfull y;have e1:∀ P:Nat->Prop,(∃ j,j<k/\yK es j=some y.1/\Lst L j/\P j)↔∃ j,j<k/\yK es j=some y.1/\j<k/\P j:=fun P=>⟨fun⟨j,q1,q2,_,q4⟩=>⟨j,q1,q2,q1,q4⟩,fun⟨j,q1,q2,_,q4⟩=>⟨j,q1,q2,hfull j q1,q4⟩⟩;have e2:(∃ j oj,j<k/\Lst L j/\ops[j]?=some oj/\xR oj=some y)↔∃ j oj,j<k/\j<k/\ops[j]?=some oj/\xR oj=some y:=⟨fun⟨j,oj,q1,_,q3⟩=>⟨j,oj,q1,q1,q3⟩,fun⟨j,oj,q1,_,q3⟩=>⟨j,oj,q1,hfull j q1,q3⟩⟩;have e3:(∃ i,i<k/\yK es i=some y.1/\Lst L i)↔∃ i,i<k/\yK es i=some y.1/\i<k:=by simpa using e1 (fun _=>True));unfold EMem
  rw[e1,e2,e3]
 intro fuel;induction fuel with
 |zero =>
  (intro L a w S β T objs' hsz hge hcl hun h hin hat;have hall:=c8 (Nat.le_zero.1 hun);have hall':∀ j,j<ops.length->Lst L j:=fun j hj=>by have h1:=hall j hj;rw[yX (by omega) true false] at h1;exact h1);have hkn:ops.length<=k:=by rcases Nat.lt_or_ge k ops.length with h'|h';{exact absurd (hall' k h') (hge k h' (Nat.le_refl _))};{exact h'}
  have hfull:∀ j,j<k->Lst L j:=fun j hj=>hall' j (by omega);refine mZ D hdst hk 0 k L (ps:=⟨T2,O2⟩) (S:=S) (β:=β) (Nat.le_refl _) hkl hsz (fun j hj=>⟨fun _=>by omega,fun _=>hall' j hj⟩) (by omega) ?_ hK;show Sim w0 S0 K0 N (zB T2) O2 a w S β;rw[<-hend hfull hat];exact h.perm (fun x=>by rw[hO2 x,hin x,hEx hfull x]) hnd2
 |succ fuel ih =>
  intro L a w S β T objs' hsz hge hcl hun h hin hat;by_cases hfull:∀ j,j<k->Lst L j
  ·refine mZ D hdst hk (fuel+1) k L (ps:=⟨T2,O2⟩) (S:=S) (β:=β) (Nat.le_refl _) hkl hsz (fun j hj=>⟨fun hl=>?_,fun hj'=>hfull j hj'⟩) ?_ ?_ hK;{rcases Nat.lt_or_ge j k with h'|h';{exact h'};{exact absurd hl (hge j hj h')}}
   ·have cnt:∀ n,k<=n->n<=ops.length->n<=k+unl L n:=by
     intro n;induction n with
     |zero=>intro _ _;omega| succ n ihn =>
      intro hkn hn;simp only[unl];by_cases hk0:k=n+1;{omega}
      ·(have:=ihn (by omega) (by omega);have hnl:=hge n (by omega) (by omega);have:L.getD n true≠true:=by rw[yX (by omega) true false];exact hnl);rw[if_neg this]
       omega
    have:=cnt ops.length hkl (Nat.le_refl _);omega
   {show Sim w0 S0 K0 N (zB T2) O2 a w S β;rw[<-hend hfull hat];exact h.perm (fun x=>by rw[hO2 x,hin x,hEx hfull x]) hnd2}
  ·have hun0:∃ j,j<k/\¬Lst L j/\∀ i,i<j->Lst L i:=by
    have:∀ n,n<=k->(∀ i,i<n->Lst L i)\/∃ j,j<k/\¬Lst L j/\∀ i,i<j->Lst L i:=by
     intro n;induction n with
     |zero=>intro _;exact .inl fun i h=>by omega| succ n ihn =>
      intro hn;rcases ihn (by omega) with h1|h1;{by_cases hx:Lst L n;{refine .inl fun i hi=>?_;by_cases e:i=n;{exact e ▸ hx};{exact h1 i (by omega)}};{exact .inr ⟨n,by omega,hx,h1⟩}};{exact .inr h1}
    rcases this k (Nat.le_refl _) with h1|h1;{exact absurd h1 hfull};{exact h1}
   obtain⟨j0,hj0,hnj0,hbelow⟩:=hun0;refine⟨fun hr=>?_,fun i hi=>?_⟩
   ·(exfalso;have hlt:j0<ops.length:=by omega);have hin:j0∈Region.ready .any ops.toArray L:=by
     refine mem_ready.2 ⟨?_,ops[j0],by simp[hlt],fun e he hb=>?_⟩
     ·rw[yX (by omega) true false];cases hx:L.getD j0 false with
      |false=>rfl| true=>exact absurd hx hnj0
     {exact hbelow e.on (D.back j0 _ (List.getElem?_eq_getElem hlt) e (by simpa using he) hb)}
    rw[hr] at hin;cases hin
   ·(obtain⟨h1,o,h2,h3⟩:=mem_ready.1 hi;have ho:ops[i]?=some o:=by simpa using h2);have hlt:i<ops.length:=(List.getElem?_eq_some_iff.1 ho).1
    have hE:fQ (Lst L) o:=fun e he hb=>h3 e (by simpa using he) hb;have hik:i<k:=by rcases Nat.lt_or_ge i k with h'|h';{exact h'};{exact absurd (y8 hcl ho hE (D.rest i j0 hlt h' (by omega))) hnj0}
    (have hp:pvs[i]?=some pvs[i]:=List.getElem?_eq_getElem (by omega);have hdo:=fM (hdst o (List.mem_of_getElem? ho));have hsize:i<L.size:=by omega);have hnl:¬Lst L i:=fun hl=>by rw[yX (by omega) true false] at h1;unfold Lst at hl;rw[h1] at hl;exact absurd hl (by decide)
    (have hagree:∀ t,t∈uM ops o->wK ((ops.take k).take i) (pvs.take i) (zB T0) t=zB T t:=fun t ht=>At.same D hpl (At.text D hlen i (by omega)) hat fun j oj hj hoj hd=>by rcases D.look i o t j oj hik hj ho hoj ht hd with⟨q1,q2⟩|⟨q1,q2⟩;{exact .inl ⟨q1,y8 hcl ho hE q2⟩};{refine .inr ⟨by omega,fun hl=>?_⟩;have:=y8 hcl hoj (hcl j oj hoj hl) q2;rw[yX (by omega) true false] at h1;exact absurd this (by unfold Lst;rw[h1];decide)});have hLs:∀ j,Lst (L.setIfInBounds i true) j↔Lst L j\/j=i:=xW hsize;have hnext:∀ {a':Act} {w':World} {S':Nat->Nat->Prop} {β':Bm} {T':List (Nat×PV)} {objs3:List (Nat×Obj')},zB T'=upd (zB T) o.dst pvs[i]->Sim w0 S0 K0 N (zB T') objs3 a' w' S' β'->(∀ y,y∈objs3↔EMem ops es k O0 X (Lst (L.setIfInBounds i true)) y)->wpAny Pg .any ops.toArray Q fuel (L.setIfInBounds i true) a' w':=by intro a' w' S' β' T' objs3 hT hsim g1;refine ih (L.setIfInBounds i true) (by simpa using hsz) (fun j hj hkj hl=>?_) (fun j oj hoj hl=>?_) ?_ hsim g1 (by rw[hT];exact hat.step D hik ho hp fun j=>xW hsize j);{rcases (xW hsize j).1 hl with hl|hl;{exact hge j hj hkj hl};{omega}};{intro e he hb;rw[xW hsize];rcases (xW hsize j).1 hl with hl|hl;{exact .inl (hcl j oj hoj hl e he hb)};{subst hl;rw[ho] at hoj;cases hoj;exact .inl (hE e he hb)}};{have:=rN h1 hlt;omega}
    cases hst i o pvs[i] (by rw[List.getElem?_take_of_lt hik];exact ho) hp with
    | @mk d x hmk hpv hO =>
     obtain⟨hgn,hod,t0,hop0,hno0,hx0⟩:=uL hmk;have hinms:(d,x)∈ms:=(hms _).2 ⟨i,o,hik,ho,hmk⟩;obtain⟨f1,f2,f3,f4⟩:=hfr d x hinms;have uniq:∀ j oj,j<k->ops[j]?=some oj->oj.dst=some d->j=i:=fun j oj hj hoj hd' =>
      gL D.dst (by rw[List.getElem?_take_of_lt hj];exact hoj) (by rw[List.getElem?_take_of_lt hik];exact ho) hd' hod
     (have hnoE:∀ j,j<k->yK es j=some d->¬Lst L j:=fun j hj hje hjl=>by have hjo:ops[j]?=some ops[j]:=List.getElem?_eq_getElem (by omega);exact hnl (y8 hcl hjo (hcl j _ hjo hjl) (hanc j d i o x hj hje hik ho hmk)));refine jK ho (.inl ⟨by simp[Region.wanted,hgn],zL9 hmk (hdst o (List.mem_of_getElem? ho)) h f1 (fun t=>?_) (fun {m y} hmy=>?_) fun a' w' β' hsim=>?_⟩)
     {by_cases hw:∃ j oj,j<k/\Lst L j/\ops[j]?=some oj/\oj.dst=some t;{obtain⟨j,oj,q1,q2,q3,q4⟩:=hw;have hpj:pvs[j]?=some pvs[j]:=List.getElem?_eq_getElem (by omega);rw[hat.hit j oj t _ q1 q2 q3 hpj q4,<-htx.hit j oj t _ q1 q1 q3 hpj q4];refine f4 t fun e=>?_;subst e;exact hnl (uniq j oj q1 q3 q4 ▸ q2)};{rw[hat.miss t fun j oj q1 q2 q3 q4=>hw ⟨j,oj,q1,q2,q3,q4⟩];exact f2 t}}
     ·rcases (hin _).1 hmy with⟨q|⟨j,oj,q1,q2,q3,q4⟩,_⟩|⟨j,q1,q2,q3,q4⟩;{exact f3 m y q};{obtain⟨_,hodj,t1,_,hno1,hy1⟩:=uL q4;refine⟨fun e=>?_,?_⟩;{subst e;exact hnl (uniq j oj q1 q3 hodj ▸ q2)};{rw[hy1];exact tD hno1}}
      ·refine⟨fun e=>?_,?_⟩;{simp only at q2;rw[e] at q2;exact hnoE j q1 q2 q3}
       ·have hjo:ops[j]?=some ops[j]:=List.getElem?_eq_getElem (by omega);have hpj:pvs[j]?=some pvs[j]:=List.getElem?_eq_getElem (by omega);cases hst j ops[j] pvs[j] (by rw[List.getElem?_take_of_lt q1];exact hjo) hpj with
        |mk hmk' _ _=>rw[hmkE j _ _ hjo hmk'] at q2;cases q2
        |pure _ he' _ _=>rw[he'] at q2;cases q2
        |eff hm' he' h0' hfree' hg' hgo' hO' =>
         rw[he'] at q2;cases q2;have:=hX j _ _ q1 he' (by rw[hO'];exact hXin _ _ _ _ h0');have q4':X j=y:=q4;rw[<-q4',this];exact hfree' d x hinms
     {have hT:zB (put ⟨T,[]⟩ o.dst pvs[i]).tmps=upd (zB T) o.dst pvs[i]:=yY _ _ _;rw[<-hpv,<-hT] at hsim;refine hnext hT hsim fun y=>?_;rw[List.mem_append,List.mem_singleton,EMem.mk ho hik hmk (hmkE i o _ ho hmk) hnoE hLs y,hin y]}
    | @eff n x x0 hm he h0 hfree hg hgo hO =>
     have hxX:X i=x:=hX i n x hik he (by rw[hO];exact hXin _ _ _ _ h0);have hne:∀ {y:Nat×Obj'} {M:Nat->Prop},y.1=n->¬M i->EMem ops es k O0 X M y->(y∈O0\/∃ j oj,j<k/\M j/\ops[j]?=some oj/\xR oj=some y):=fun {y M} hy hMi hE=>by rcases hE with⟨q,_⟩|⟨j,q1,q2,q3,q4⟩;{exact q};{rw[hy] at q2;have:=hinj q2 he;subst this;exact absurd q3 hMi}
     (have hx0:=hne (y:=(n,x0)) rfl (by omega) ((hOb i hik _).1 (yW h0));have hnoL:¬∃ j,j<k/\yK es j=some n/\Lst L j:=fun⟨j,q1,q2,q3⟩=>hnl (hinj q2 he ▸ q3);have hin0:(n,x0)∈objs':=by rw[hin];refine .inl ⟨?_,hnoL⟩;rcases hx0 with q|⟨j,oj,q1,q2,q3,q4⟩;{exact .inl q};{exact .inr ⟨j,oj,q1,y8 hcl ho hE (hanc i n j oj x0 hik he q1 q3 q4),q3,q4⟩});have hget:z7 objs' n=some x0:=wH h.obj.nd hin0;have hs0:=hgo T objs' (fun t ht=>(hagree t ht).symm) hget;have hnin:n∈objs'.map Prod.fst:=List.mem_map.2 ⟨_,hin0,rfl⟩;refine jK ho (.inl ⟨by simp[Region.wanted,hg],jG (ps:=⟨T,objs'⟩) h hs0 hdo fun ps' a' w' S' β' hK hsim=>?_⟩);obtain⟨hK1,hK2⟩:=hK;rw[hK2] at hsim;refine hnext hK1 hsim fun y=>?_;obtain⟨y1,y2⟩:=y;rw[pE h.obj.nd hnin,EMem.eff hinj ho hik hm he hLs,hin,hxX]
    |pure hm he hs1 hO =>
     have hgo:∀ n o,z7 lim n=some o->z7 objs' n=some o:=fun n o hg=>by obtain⟨q1,q2⟩:=hlim n o hg;exact wH h.obj.nd ((hin _).2 (.inl ⟨.inl q1,fun⟨j,_,q3,_⟩=>q2 j q3⟩))
     (have hs2:x7 true lim ops o (zB T) pvs[i]:=fV hagree hs1;have hfin:∀ y,y∈objs'↔EMem ops es k O0 X (Lst (L.setIfInBounds i true)) y:=fun y=>by rw[EMem.pure ho hm he hLs y,hin y]);refine jK ho ?_
     rcases uW h.tmp hs2 with⟨hw,hA⟩|⟨hw,hB⟩;{refine .inl ⟨hw,mN h (tF hgo hA) fun pv w' S' β' v hpv l hr=>?_⟩;refine hnext (S':=S') (β':=β') (T':=(put ⟨T,[]⟩ o.dst pvs[i]).tmps) (yY _ _ _) ?_ hfin;rw[yY];exact l.put o.dst hdo (hr.le _ hpv)};{refine .inr ⟨hw,hnext (S':=S) (β':=β) (T':=(put ⟨T,[]⟩ o.dst pvs[i]).tmps) (yY _ _ _) ?_ hfin⟩;rw[yY];refine h.put o.dst hdo ?_;rw[hB];exact aG _ _ _}
theorem rS {P:List Nat}{w:World}{S:Nat->Nat->Prop}{β:Bm}{v:Value}{pv:PV}(h:Rep w S β v pv):Rep w S β v (scA P pv):=by
 cases pv with
 |agg cs=>exact xL _| tup cs=>exact xL _| fn f cs=>exact xL _| ptr m off=>simp only[scA];cases zY m P <;> first|exact h|exact xL _
 |aptr m s i off=>simp only[scA];cases zY m P <;> first|exact h|exact xL _
 |osl m s i len=>simp only[scA];cases zY m P <;> first|exact h|exact xL _
 |_=>exact h
theorem zAY {P:List Nat}{w:World}{S:Nat->Nat->Prop}{β:Bm}{v:Value}{pv:PV}(h:Rep w S β v pv):Rep w S β v (scB P pv):=by
 cases pv with
 |agg cs =>
  obtain⟨vs,rfl,h1,h2⟩:=vL h;exact .agg (by rw[zH];exact h1) fun j hj=>by rw[zH] at hj;rw[z8 _ rfl];exact rS (h2 j hj)
 |tup cs =>
  obtain⟨vs,rfl,h1,h2⟩:=kS h;exact .tup (by rw[zH];exact h1) fun j hj=>by rw[zH] at hj;rw[z8 _ rfl];exact rS (h2 j hj)
 |fn f cs =>
  obtain⟨vs,rfl,h1,h2⟩:=kT h;exact .fn (by rw[zH];exact h1) fun j hj=>by rw[zH] at hj;rw[z8 _ rfl];exact rS (h2 j hj)
 |_=>first|exact rS (P:=P) h|exact h
theorem aF {P:List Nat}{w:World}{S:Nat->Nat->Prop}{β:Bm}{v:Value}{pv:PV}(h:Rep w S β v pv):Rep w S β v (scC P pv):=by
 cases pv with
 |agg cs =>
  obtain⟨vs,rfl,h1,h2⟩:=vL h;exact .agg (by rw[zH];exact h1) fun j hj=>by rw[zH] at hj;rw[z8 _ rfl];exact zAY (h2 j hj)
 |tup cs =>
  obtain⟨vs,rfl,h1,h2⟩:=kS h;exact .tup (by rw[zH];exact h1) fun j hj=>by rw[zH] at hj;rw[z8 _ rfl];exact zAY (h2 j hj)
 |fn f cs =>
  obtain⟨vs,rfl,h1,h2⟩:=kT h;exact .fn (by rw[zH];exact h1) fun j hj=>by rw[zH] at hj;rw[z8 _ rfl];exact zAY (h2 j hj)
 |_=>exact rS (P:=P) h
theorem gI (f g h:PV->PV)(H:∀ v,f (g v)=h v):∀ l:List PV,x6 f (x6 g l)=x6 h l
 |[]=>rfl| v::r=>by simp only[x6,H,gI f g h H r]
theorem cK (f g:PV->PV)(H:∀ v,f v=g v):∀ l:List PV,x6 f l=x6 g l
 |[]=>rfl| v::r=>by simp only[x6,H,cK f g H r]
theorem zCQ (m n:Nat):nqb m n=nqb n m:=by unfold nqb;exact Bool.beq_comm
theorem lF {P P':List Nat}(H:∀ m,zY m P=true->zY m P'=true)(v:PV):scA P' (scA P v)=scA P' v:=by
 have key:∀ {m:Nat} {x:PV},(∀ y,scA P' y=scA P' y)->(zY m P'=true->scA P' x=.any)->scA P' (match zY m P with|true=>PV.any|false=>x)=scA P' x:=by
  intro m x _ hx;cases h:zY m P with
  |true=>rw[hx (H m h)];rfl
  |false=>rfl
 cases v with
 |ptr m off=>exact key (fun _=>rfl) (fun h=>by simp only[scA,h])| aptr m s i off=>exact key (fun _=>rfl) (fun h=>by simp only[scA,h])| osl m s i len=>exact key (fun _=>rfl) (fun h=>by simp only[scA,h])| _=>rfl
def aZ:PV->Bool
 |.agg _=>true| .tup _=>true| .fn _ _=>true| _=>false
theorem sN {P:List Nat}{v:PV}(h:aZ v=false):scB P v=scA P v:=by cases v <;> first|rfl|cases h
theorem sM {P:List Nat}{v:PV}(h:aZ v=false):scC P v=scA P v:=by cases v <;> first|rfl|cases h
theorem zJK {n:Nat}{v:PV}(h:aZ v=false):sc1 n v=sc0 n v:=by cases v <;> first|rfl|cases h
theorem zJI {n:Nat}{v:PV}(h:aZ v=false):scr n v=sc0 n v:=by cases v <;> first|rfl|cases h
theorem zNO {n:Nat}{v:PV}(h:aZ v=false):rf1 n v=rf0 n v:=by cases v <;> first|rfl|cases h
theorem zNN {n:Nat}{v:PV}(h:aZ v=false):y7 n v=rf0 n v:=by cases v <;> first|rfl|cases h
theorem p8 (P:List Nat)(v:PV):aZ (scA P v)=false:=by
 cases v with
 |ptr m off=>simp only[scA];cases zY m P <;> rfl
 |aptr m s i off=>simp only[scA];cases zY m P <;> rfl
 |osl m s i len=>simp only[scA];cases zY m P <;> rfl
 |_=>rfl
theorem zDL (n:Nat)(v:PV):aZ (sc0 n v)=false:=by
 cases v with
 |ptr m off=>simp only[sc0];cases nqb m n <;> rfl
 |aptr m s i off=>simp only[sc0];cases nqb m n <;> rfl
 |osl m s i len=>simp only[sc0];cases nqb m n <;> rfl
 |_=>rfl
theorem zH8 {P P':List Nat}(H:∀ m,zY m P=true->zY m P'=true)(v:PV):scB P' (scB P v)=scB P' v:=by
 cases hv:aZ v with
 |false=>rw[sN hv,sN (p8 P v),lF H,sN hv]| true=>cases v <;> first|(cases hv;done)|(simp only[scB];rw[gI _ _ _ (lF H)])
theorem zCI {P P':List Nat}(H:∀ m,zY m P=true->zY m P'=true)(v:PV):scC P' (scC P v)=scC P' v:=by
 cases hv:aZ v with
 |false=>rw[sM hv,sM (p8 P v),lF H,sM hv]| true=>cases v <;> first|(cases hv;done)|(simp only[scC];rw[gI _ _ _ (zH8 H)])
theorem zA0 (n:Nat)(P:List Nat)(v:PV):sc0 n (scA P v)=scA (n::P) v:=by
 have e:∀ m,zY m (n::P)=(nqb m n || zY m P):=fun m=>by show (nqb n m || zY m P)=_;rw[zCQ]
 cases v with
 |ptr m off=>simp only[scA,e];cases h1:zY m P <;> cases h2:nqb m n <;> simp[sc0,h2]
 |aptr m s i off=>simp only[scA,e];cases h1:zY m P <;> cases h2:nqb m n <;> simp[sc0,h2]
 |osl m s i len=>simp only[scA,e];cases h1:zY m P <;> cases h2:nqb m n <;> simp[sc0,h2]
 |_=>rfl
theorem zKY (n:Nat)(P:List Nat)(v:PV):sc1 n (scB P v)=scB (n::P) v:=by
 cases hv:aZ v with
 |false=>rw[sN hv,zJK (p8 P v),zA0,sN hv]| true=>cases v <;> first|(cases hv;done)|(simp only[scB,sc1];rw[gI _ _ _ (zA0 n P)])
theorem zFH (n:Nat)(P:List Nat)(v:PV):scr n (scC P v)=scC (n::P) v:=by
 cases hv:aZ v with
 |false=>rw[sM hv,zJI (p8 P v),zA0,sM hv]| true=>cases v <;> first|(cases hv;done)|(simp only[scC,scr];rw[gI _ _ _ (zKY n P)])
theorem tJ {P P':List Nat}(H:∀ m,zY m P=zY m P')(v:PV):scA P v=scA P' v:=by
 cases v with
 |ptr m off=>simp only[scA,H]| aptr m s i off=>simp only[scA,H]| osl m s i len=>simp only[scA,H]| _=>rfl
theorem zGX {P P':List Nat}(H:∀ m,zY m P=zY m P')(v:PV):scB P v=scB P' v:=by
 cases hv:aZ v with
 |false=>rw[sN hv,sN hv,tJ H]| true=>cases v <;> first|(cases hv;done)|(simp only[scB];rw[cK _ _ (tJ H)])
theorem jE {P P':List Nat}(H:∀ m,zY m P=zY m P')(v:PV):scC P v=scC P' v:=by
 cases hv:aZ v with
 |false=>rw[sM hv,sM hv,tJ H]| true=>cases v <;> first|(cases hv;done)|(simp only[scC];rw[cK _ _ (zGX H)])
theorem zEY (n:Nat)(v:PV):rf0 n (sc0 n v)=true:=by
 cases v with
 |ptr m off=>simp only[sc0];cases h:nqb m n <;> simp[rf0,h]
 |aptr m s i off=>simp only[sc0];cases h:nqb m n <;> simp[rf0,h]
 |osl m s i len=>simp only[sc0];cases h:nqb m n <;> simp[rf0,h]
 |_=>rfl
theorem aW {f:PV->Bool}{g:PV->PV}(H:∀ v,f (g v)=true):∀ l:List PV,yN f (x6 g l)=true
 |[]=>rfl| v::r=>by simp only[x6,yN,H,aW H r];rfl
theorem zNM (n:Nat)(v:PV):rf1 n (sc1 n v)=true:=by
 cases hv:aZ v with
 |false=>rw[zJK hv,zNO (zDL n v),zEY]| true=>cases v <;> first|(cases hv;done)|exact aW (zEY n) _
theorem zEX (n:Nat)(v:PV):y7 n (scr n v)=true:=by
 cases hv:aZ v with
 |false=>rw[zJI hv,zNN (zDL n v),zEY]| true=>cases v <;> first|(cases hv;done)|exact aW (zNM n) _
theorem zEC {n:Nat}(hn:n<1000000)(T:List (Nat×PV))(O:List (Nat×Obj')):yE n ⟨xY (scr n) T,yS (scr n) (xC O n)⟩=true:=by
 have h1:∀ T:List (Nat×PV),dN n (xY (scr n) T)=true:=by
  intro T;induction T with
  |nil=>rfl| cons a r ih=>obtain⟨t,v⟩:=a;simp only[xY,dN,zEX,ih];rfl
 have h2:xA n (yS (scr n) (xC O n))=true:=mP hn fun m o hm=>by
  obtain⟨o',q1,q2⟩:=xO _ hm;refine⟨(xP q1).2,?_⟩;cases o' with
  |box cs=>subst q2;exact aW (zEX n) cs| arr s e=>subst q2;trivial| log s e=>subst q2;trivial| lent s e=>subst q2;trivial| mat s r q=>subst q2;exact rZ (zEX n) q
 unfold yE;rw[h1,h2];rfl
def scO (P:List Nat):Obj'->Obj':=xD (scC P)
theorem j9 (P:List Nat){l:List (Nat×Obj')}{y:Nat×Obj'}:y∈yS (scC P) l↔∃ o,(y.1,o)∈l/\y.2=scO P o:=by
 constructor;{intro h;exact xO (n:=y.1) (o:=y.2) _ h}
 ·(rintro⟨o,h1,h2⟩;have:=dS (scC P) h1;have e:y=(y.1,xD (scC P) o):=by rw[<-show scO P o=xD (scC P) o from rfl,<-h2]);rw[e]
  exact this
theorem zJJ {P:List Nat}{w:World}{S:Nat->Nat->Prop}{β:Bm}{n:Nat}{o:Obj'}(h:ObjAt w S β n o):ObjAt w S β n (scO P o):=ObjAt.map rfl (fun _ _ hx=>aF hx) h
theorem zFI {P:List Nat}{o:Obj'}{i:Nat}(h:uZ o i):uZ (scO P o) i:=dP h
theorem o7 (f g h:PV->PV)(H:∀ v,f (g v)=h v):∀ l:List (PV×(Unit->Nat)),qH f (qH g l)=qH h l
 |[]=>rfl| (v,k)::r=>by simp only[qH,H,o7 f g h H r]
theorem iF (f g:PV->PV)(H:∀ v,f v=g v):∀ l:List (PV×(Unit->Nat)),qH f l=qH g l
 |[]=>rfl| (v,k)::r=>by simp only[qH,H,iF f g H r]
theorem mT (f g h:PV->PV)(H:∀ v,f (g v)=h v)(o:Obj'):xD f (xD g o)=xD h o:=by
 cases o with
 |box cs=>simp only[xD];rw[gI _ _ _ H]| mat s r q=>simp only[xD];rw[o7 _ _ _ H]| _=>rfl
theorem mU (f g:PV->PV)(H:∀ v,f v=g v)(o:Obj'):xD f o=xD g o:=by
 cases o with
 |box cs=>simp only[xD];rw[cK _ _ H]| mat s r q=>simp only[xD];rw[iF _ _ H]| _=>rfl
theorem zCH {P P':List Nat}(H:∀ m,zY m P=true->zY m P'=true)(o:Obj'):scO P' (scO P o)=scO P' o:=mT _ _ _ (zCI H) o
theorem zD0 {P P':List Nat}(H:∀ m,zY m P=zY m P'):scO P=scO P':=funext fun o=>mU _ _ (jE H) o
theorem dI {P P':List Nat}(H:∀ m,zY m P=zY m P')(o:Obj'):scO P o=scO P' o:=mU _ _ (jE H) o
theorem Sim.weak {τ τ':Nat->PV}{objs objs':List (Nat×Obj')}{a:Act}{w:World}{S:Nat->Nat->Prop}{β:Bm}(h:Sim w0 S0 K0 N τ objs a w S β)(hτ:∀ t v,Rep w S β v (τ t)->Rep w S β v (τ' t))(hnd:(objs'.map Prod.fst).Nodup) (ho:∀ n o',(n,o')∈objs'->∃ o,(n,o)∈objs/\(ObjAt w S β n o->ObjAt w S β n o')/\(∀ i,uZ o i->uZ o' i)/\∀ b,Own β n o' b->Own β n o b):Sim w0 S0 K0 N τ' objs' a w S β where
 dfr:=h.dfr
 sz:=h.sz
 ld:=h.ld
 tmp t:=hτ t _ (h.tmp t)
 obj:=⟨hnd,fun n o hm=>by obtain⟨o1,q1,q2,_⟩:=ho n o hm;exact q2 (h.obj.at_ n o1 q1),
  fun n o b hm hβ=>by obtain⟨o1,q1,_,q3,q4⟩:=ho n o hm;exact⟨fun i hS=>q3 i ((h.obj.un n o1 b q1 (q4 b hβ)).1 i hS),(h.obj.un n o1 b q1 (q4 b hβ)).2⟩,
  fun n o m o' b hm hm' hβ hβ'=>by obtain⟨x,q1,_,_,g1⟩:=ho n o hm;obtain⟨y,q2,_,_,g2⟩:=ho m o' hm';exact h.obj.inj _ _ _ _ b q1 q2 (g1 b hβ) (g2 b hβ')⟩
 own n o b hm hβ:=by obtain⟨x,q1,_,_,g1⟩:=ho n o hm;exact h.own n x b q1 (g1 b hβ)
 keep n o hm hb:=by obtain⟨x,q1,_⟩:=ho n o hm;exact h.keep n x q1 hb
def PL (B:Nat->Bool):List (Nat×Nat)->List Nat
 |[]=>[]| (e,m)::r=>(match B e with|true=>m::PL B r|false=>PL B r)
theorem kI:∀ {l:List Nat} {n:Nat},zY n l=true↔n∈l:=fun {l n}=>⟨wJ,dQ⟩
theorem kZ {B:Nat->Bool}{m:Nat}:∀ {es:List (Nat×Nat)},m∈PL B es↔∃ e,(e,m)∈es/\B e=true
 |[]=>by simp[PL]| (e,x)::r=>by
  unfold PL;cases hb:B e with
  |true =>
   simp only[List.mem_cons,kZ (es:=r)];constructor;{rintro (rfl|⟨e',h1,h2⟩);{exact⟨e,.inl rfl,hb⟩};{exact⟨e',.inr h1,h2⟩}};{rintro⟨e',h1|h1,h2⟩;{cases h1;exact .inl rfl};{exact .inr ⟨e',h1,h2⟩}}
  |false =>
   simp only[kZ (es:=r),List.mem_cons];constructor;{rintro⟨e',h1,h2⟩;exact⟨e',.inr h1,h2⟩};{rintro⟨e',h1|h1,h2⟩;{cases h1;rw[hb] at h2;cases h2};{exact⟨e',h1,h2⟩}}
theorem mE {an:List Nat}{i m:Nat}:∀ {es:List (Nat×Nat)},m∈freeN an i es↔∃ e,(e,m)∈es/\(an.getD e 0).testBit i=false
 |[]=>by simp[freeN]| (e,x)::r=>by
  unfold freeN;cases hb:(an.getD e 0).testBit i with
  |true =>
   simp only[mE (es:=r),List.mem_cons];constructor;{rintro⟨e',h1,h2⟩;exact⟨e',.inr h1,h2⟩};{rintro⟨e',h1|h1,h2⟩;{cases h1;rw[hb] at h2;cases h2};{exact⟨e',h1,h2⟩}}
  |false =>
   simp only[List.mem_cons,mE (es:=r)];constructor;{rintro (rfl|⟨e',h1,h2⟩);{exact⟨e,.inl rfl,hb⟩};{exact⟨e',.inr h1,h2⟩}};{rintro⟨e',h1|h1,h2⟩;{cases h1;exact .inl rfl};{exact .inr ⟨e',h1,h2⟩}}
theorem vR (P:List Nat):∀ (T:List (Nat×PV)) (t:Nat),zB (gD P T) t=(match zY t P with|true=>zB T t|false=>scC P (zB T t))
 |[],t=>by cases h:zY t P <;> simp[gD,zB,scC,scA]
 |(u,v)::r,t=>by
  simp only[gD,zB];cases hu:nqb u t with
  |true=>have:=yC hu;subst this;rfl
  |false=>exact vR P r t
inductive ApStep (ops:List Oper) (es:List (Nat×Nat)) (an:List Nat) (lim:List (Nat×Obj')) (i:Nat) (o:Oper) (τ:Nat->PV) (pv:PV) (O O':List (Nat×Obj')):Prop
 |app {n s o' l' x x0} (he:yK es i=some n) (hd:o.dst=some n) (hg:o.guard=none) (h0:z7 O n=some x0) (hpv:pv=.osl n s o' l') (hx0:∀ P,scO P x0=x0) (hx:∀ P,scO P x=x)
   (hfix:∀ t,t∈uM ops o->(∃ a b c,τ t=.osl n a b c)\/∀ P,scC P (τ t)=τ t)
   (hgo:∀ (T':List (Nat×PV)) (O1:List (Nat×Obj')),(∀ t,t∈uM ops o->zB T' t=τ t)->z7 O1 n=some x0->yE n ⟨xY (scr n) T',yS (scr n) (xC O1 n)⟩=true ->
    j2 o ⟨T',O1⟩ (fun p=>zB p.tmps=upd (fun t=>scr n (zB T' t)) (some n) pv/\p.objs=yS (scr n) (xC O1 n)++[(n,x)])) (hO:O'=setO O n x)
 |pure (he:yK es i=none) (h:x7 false (yS (scC (freeN an i es)) lim) ops o (fun t=>scC (freeN an i es) (τ t)) pv) (hO:O'=O)
theorem pM {v:PV}(h:kE v=true):v=.nil\/v=.emp:=by cases v <;> first|exact .inl rfl|exact .inr rfl|exact absurd h (by simp[kE])
theorem zLN {ops:List Oper}{o:Oper}{n:Nat}{T:List (Nat×PV)}{O:List (Nat×Obj')}{K:PV->Obj'->Prop}(h:effA o n T O K):∃ pv s o' l' x x0,K pv x/\o.dst=some n/\o.guard=none/\z7 O n=some x0/\pv=.osl n s o' l'/\(∀ P,scO P x0=x0)/\(∀ P,scO P x=x) /\ (∀ t,t∈uM ops o->(∃ a b c,zB T t=.osl n a b c)\/∀ P,scC P (zB T t)=zB T t) /\ ∀ (T':List (Nat×PV)) (O1:List (Nat×Obj')),(∀ t,t∈uM ops o->zB T' t=zB T t)->z7 O1 n=some x0->yE n ⟨xY (scr n) T',yS (scr n) (xC O1 n)⟩=true ->j2 o ⟨T',O1⟩ (fun p=>zB p.tmps=upd (fun t=>scr n (zB T' t)) (some n) pv/\p.objs=yS (scr n) (xC O1 n)++[(n,x)]):=by
 unfold effA at h;cases hg:o.guard with
 |some g=>rw[hg] at h;exact h.elim| none =>
 rw[hg] at h;simp only at h;split at h
 ·rename_i c hop;split at h
  ·rename_i hcl;split at h
   ·rename_i b x t tx d hargs htys hd;split at h
    ·(rename_i hc;simp only[Bool.and_eq_true] at hc;have hdn:=yC hc.2;subst hdn;obtain⟨s,bb,z,xs,lg,els,h1,h2,h3,h5,hcase⟩:=h.h;have hmk:∀ (e:Unit->List (List D)) (P:List Nat),scO P (kJ lg s e)=kJ lg s e:=fun e P=>by cases lg <;> rfl);have hlk:∀ u,u∈uM ops o->(b=.tmp u\/x=.tmp u):=fun u hu=>by
      unfold uM at hu;rw[hg] at hu;simp only[List.append_nil] at hu;rw[List.mem_filterMap] at hu;obtain⟨y,hy1,hy2⟩:=hu;have hy3:y=b\/y=x:=by rw[hop] at hy1;simp only[Op.operands,Call.operands,hcl,Array.toList_append,List.mem_append,hargs] at hy1;simpa using hy1
      (have:y=.tmp u:=by cases y <;> simp_all);rcases hy3 with rfl|rfl
      {exact .inl this};{exact .inr this}
     rcases hcase with⟨o',len,h4,h6,h7,h8,h9⟩|⟨h4,h8,h9⟩
     ·refine⟨_,s,_,_,_,_,h9,hd,rfl,h5,rfl,hmk _,hmk _,fun u hu=>?_,fun T' O1 hT hO hfr=>?_⟩;{rcases hlk u hu with e|e;{rw[e] at h4;exact .inl ⟨_,_,_,h4⟩};{rw[e] at h2;rcases h2 with h2|⟨h2,_⟩;{exact .inr fun P=>by rw[show zB T u=_ from h2];rfl};{exact .inr fun P=>by rw[show zB T u=_ from h2];rfl}}}
      ·(have hev:=pI hg hT;have e1:ev (zB T') b=.osl d s o' len:=by rw[hev b (by rw[hop];simp[Op.operands,Call.operands,hcl,hargs])];exact h4);have e2:ev (zB T') x=ev (zB T) x:=hev x (by rw[hop];simp[Op.operands,Call.operands,hcl,hargs])
       unfold j2;simp only[hop,hcl];rw[hargs,htys];simp only[hc.1];refine⟨.inl ⟨⟨T',O1⟩,d,d,s,bb,z,xs,.refl _,hd,h1,.inl (by rw[e2];exact h2),h3,.inr ⟨lg,d,o',len,els,e1,hO,h6,h7,h8,hfr,?_,rfl⟩⟩⟩;funext t;rw[jV];simp only[upd];split;{rfl};{exact uE _ (aE d) _ _}
     ·refine⟨_,s,_,_,_,_,h9,hd,rfl,h5,rfl,hmk _,fun _=>rfl,fun u hu=>?_,fun T' O1 hT hO hfr=>?_⟩;{rcases hlk u hu with e|e;{rw[e] at h4;rcases pM h4 with h4|h4;{exact .inr fun P=>by rw[show zB T u=_ from h4];rfl};{exact .inr fun P=>by rw[show zB T u=_ from h4];rfl}};{rw[e] at h2;rcases h2 with h2|⟨h2,_⟩;{exact .inr fun P=>by rw[show zB T u=_ from h2];rfl};{exact .inr fun P=>by rw[show zB T u=_ from h2];rfl}}}
      ·(have hev:=pI hg hT;have e1:kE (ev (zB T') b)=true:=by rw[hev b (by rw[hop];simp[Op.operands,Call.operands,hcl,hargs])];exact h4);have e2:ev (zB T') x=ev (zB T) x:=hev x (by rw[hop];simp[Op.operands,Call.operands,hcl,hargs])
       have hsc:∀ (y:Operand),(kE (ev (zB T') y)=true\/∃ a,ev (zB T') y=.sl a)->ev (zB (xY (scr d) T')) y=ev (zB T') y:=fun y hy=>by
        cases y with
        |tmp u =>
         have e:ev (zB (xY (scr d) T')) (.tmp u)=scr d (ev (zB T') (.tmp u)):=uE _ (aE d) _ _;rw[e];rcases hy with hy|⟨a,hy⟩;{rcases pM hy with hy|hy <;> rw[hy] <;> rfl};{rw[hy];rfl}
        |_=>rfl
       (have e3:kE (ev (zB (xY (scr d) T')) b)=true:=by rw[hsc b (.inl e1)];exact e1);have e4:ev (zB (xY (scr d) T')) x=ev (zB T) x:=by rw[hsc x (by rw[e2];rcases h2 with h2|⟨h2,_⟩ <;> rw[h2] <;> simp[kE]),e2]
       unfold j2;simp only[hop,hcl];rw[hargs,htys];simp only[hc.1];refine⟨.inl ⟨⟨xY (scr d) T',yS (scr d) (xC O1 d)⟩,d,d,s,bb,z,xs,.drop d,hd,h1,.inl (by rw[e4];exact h2),h3,.inl ⟨e3,h8,hfr,?_,rfl⟩⟩⟩;funext t;rw[jV];simp only[upd];split;{rfl};{exact uE _ (aE d) _ _}
    {exact h.elim}
   {exact h.elim}
  ·rename_i g hcl;split at h
   ·rename_i d hd;split at h
    ·rename_i hc;have hdn:=yC hc;subst hdn;obtain⟨f,caps,hn,cargs,m,k,s,els,els',o',l',h1,h2,h3,h4,hm,hkd,h5,h6,h7,h8⟩:=h.h;have hlk:∀ u,u∈uM ops o->.tmp u∈c.args.toList:=fun u hu=>by
      (unfold uM at hu;rw[hg] at hu;simp only[List.append_nil] at hu;rw[List.mem_filterMap] at hu;obtain⟨y,hy1,hy2⟩:=hu;have:y=.tmp u:=by cases y <;> simp_all);subst this
      rw[hop] at hy1;simp only[Op.operands,Call.operands,hcl,Array.toList_append,List.mem_append] at hy1;rcases hy1 with hy1|hy1;{simp at hy1;subst hy1;cases h2};{exact hy1}
     have hfx:∀ (l:List Operand) (u:Nat),Operand.tmp u∈l->yN (fixP d) (evs (ev (zB T)) l)=true->fixP d (zB T u)=true:=by
      intro l u;induction l with
      |nil=>intro h;simp at h| cons y l ih =>
       intro h q;simp only[evs,yN,Bool.and_eq_true] at q;rcases List.mem_cons.1 h with e|h;{subst e;exact q.1};{exact ih h q.2}
     refine⟨_,s,_,_,_,_,h8,hd,rfl,h5,rfl,fun _=>rfl,fun _=>rfl,fun u hu=>?_,fun T' O1 hT hO hfr=>?_⟩
     ·have:=hfx _ u (hlk u hu) h7;generalize zB T u=v at this ⊢;cases v with
      |osl m' a b c =>
       have e:=yC (show nqb m' d=true from this);subst e;exact .inl ⟨_,_,_,rfl⟩
      |agg _=>cases this
      |tup _=>cases this
      |fn _ _=>cases this
      |ptr _ _=>cases this
      |aptr _ _ _ _=>cases this
      |_=>exact .inr fun P=>rfl
     ·(have hev:=pI hg hT;have e1:ev (zB T') g=.fn f caps:=by rw[hev g (by rw[hop];simp[Op.operands,Call.operands,hcl])];exact h1);have e2:evs (ev (zB T')) c.args.toList=evs (ev (zB T)) c.args.toList:=d6 fun y hy=>hev y (by rw[hop];simp[Op.operands,Call.operands,hcl];exact .inr (by simpa using hy))
      unfold j2;simp only[hop,hcl];refine⟨⟨T',O1⟩,.refl _,f,caps,e1,.inr ⟨hn,cargs,[],[(m,.arr s els)],_,[],[(k,.arr s els')],by rw[e2];exact h3,h4,⟨⟨by rw[hm];exact hO,rfl⟩,trivial⟩,rfl,rfl,rfl,rfl,?_,h6,rfl,?_,?_⟩⟩;{show (yE (hn k) (sU hn [(m,.arr s els)] ⟨T',O1⟩)&&true)=true;rw[Bool.and_true,hkd];show yE d ⟨xY (scr (hn m)) T',yS (scr (hn m)) (xC O1 (hn m))⟩=true;rw[hm];exact hfr};{show nmIn [k] (.osl k s o' l')=true;simp[nmIn,nm0,zY]}
      ·have e3:aH hn [(m,.arr s els)] [] [(k,.arr s els')] ⟨T',O1⟩=⟨xY (scr d) T',yS (scr d) (xC O1 d)++[(d,.arr s els')]⟩:=by show (⟨xY (scr (hn m)) T',yS (scr (hn m)) (xC O1 (hn m))++[(hn k,.arr s els')]⟩:PS)=_;rw[hm,hkd]
       (rw[e3,hd];have e4:ren hn (.osl k s o' l')=.osl d s o' l':=by show PV.osl (hn k) s o' l'=_;rw[hkd]);rw[e4]
       refine⟨?_,rfl⟩;funext t;show zB (w9 (xY (scr d) T') d _) t=_;rw[jV];simp only[upd];split;{rfl};{exact uE _ (aE d) _ _}
    {exact h.elim}
   {exact h.elim}
  {exact h.elim}
 {exact h.elim}
theorem zJ5 {ops:List Oper}{es:List (Nat×Nat)}{an:List Nat}{lim:List (Nat×Obj')}{K:List (Nat×PV)->List (Nat×Obj')->Prop}:∀ (l:List Oper) (i:Nat) {T:List (Nat×PV)} {O:List (Nat×Obj')},apWp ops es an lim l i T O K ->∃ (pvs:List PV) (Ob:Nat->List (Nat×Obj')) (T':List (Nat×PV)),pvs.length=l.length/\Ob 0=O/\K T' (Ob l.length)/\zB T'=wK l pvs (zB T) /\ ∀ j o pv,l[j]?=some o->pvs[j]?=some pv->ApStep ops es an lim (i+j) o (wK (l.take j) (pvs.take j) (zB T)) pv (Ob j) (Ob (j+1))
 |[],i,T,O,h=>⟨[],fun _=>O,T,rfl,rfl,h,rfl,fun j o pv h=>by simp at h⟩| o::r,i,T,O,h=>by
  obtain⟨pv,O1,T1,h1,ht1,hst⟩:∃ pv O1 T1,apWp ops es an lim r (i+1) T1 O1 K/\zB T1=upd (zB T) o.dst pv/\ApStep ops es an lim i o (zB T) pv O O1:=by
   unfold apWp at h;cases he:yK es i with
   |some n =>
    rw[he] at h;simp only at h;obtain⟨pv,s,o',l',x,x0,q1,q2,q3,q4,q5,q6,q7,q8,q9⟩:=zLN (ops:=ops) h;exact⟨pv,_,_,q1,yY _ _ _,.app he q2 q3 q4 q5 q6 q7 q8 q9 rfl⟩
   |none =>
    rw[he] at h;simp only at h;have hm:zB (xY (scC (freeN an i es)) T)=fun t=>scC (freeN an i es) (zB T t):=funext fun t=>uE _ rfl _ _;rw[hm] at h;rcases bA h with⟨pv,q1,q2⟩|⟨q1,q2⟩;{obtain⟨pv',p,g1,g2,g3,g4⟩:=bM q1;exact⟨pv',O,p.tmps,g2,g4,.pure he (q2 pv' g1) rfl⟩};{exact⟨.tup [],O,_,q1,yY _ _ _,.pure he q2 rfl⟩}
  obtain⟨pvs,Ob,T',g1,g2,g3,g4,g5⟩:=zJ5 r (i+1) h1;refine⟨pv::pvs,fun j=>match j with|0=>O|j+1=>Ob j,T',by simp[g1],rfl,by simpa using g3,by rw[g4,ht1];rfl,fun j o' pv' hj hp=>?_⟩;cases j with
  |zero =>
   simp only[List.getElem?_cons_zero,Option.some.injEq] at hj hp;subst hj hp;show ApStep ops es an lim i o _ pv O (Ob 0);rw[g2];exact hst
  |succ j =>
   simp only[List.getElem?_cons_succ] at hj hp;have:=g5 j o' pv' hj hp;rw[ht1] at this;rw[show i+(j+1)=i+1+j by omega];exact this
theorem iJ:∀ {es:List (Nat×Nat)} {i m:Nat},yK es i=none->(i,m)∉es
 |(a,b)::r,i,m,h,hm=>by
  unfold yK at h;cases ha:nqb a i with
  |true=>rw[ha] at h;cases h
  |false =>
   rw[ha] at h;rcases List.mem_cons.1 hm with e|hm;{cases e;simp at ha};{exact iJ h hm}
 |[],i,m,_,hm=>by simp at hm
theorem bB:∀ {es:List (Nat×Nat)} {m:Nat},m∈vP es↔∃ e,(e,m)∈es
 |[],m=>by simp[vP]| (e,x)::r,m=>by simp only[vP,List.mem_cons,bB (es:=r)];constructor;{rintro (rfl|⟨e',h⟩);{exact⟨e,.inl rfl⟩};{exact⟨e',.inr h⟩}};{rintro⟨e',h|h⟩;{cases h;exact .inl rfl};{exact .inr ⟨e',h⟩}}
def eU (es:List (Nat×Nat)) (O0:List (Nat×Obj')) (X:Nat->Obj') (B:Nat->Bool) (y:Nat×Obj'):Prop :=
 ∃ o,(y.1,o)∈O0/\y.2=scO (PL B es) (match zY y.1 (PL B es) with|true=>X y.1|false=>o)
theorem rH {es:List (Nat×Nat)}{O0:List (Nat×Obj')}{X:Nat->Obj'}{B B':Nat->Bool}(h:∀ m,zY m (PL B es)=zY m (PL B' es))(y:Nat×Obj'):eU es O0 X B y↔eU es O0 X B' y:=by unfold eU;constructor;{rintro⟨o,h1,h2⟩;exact⟨o,h1,by rw[h2,dI h,h]⟩};{rintro⟨o,h1,h2⟩;exact⟨o,h1,by rw[h2,dI h,h]⟩}
theorem zMJ {es:List (Nat×Nat)}{B B':Nat->Bool}(h:∀ e m,(e,m)∈es->B e=B' e)(m:Nat):zY m (PL B es)=zY m (PL B' es):=by rw[Bool.eq_iff_iff,kI,kI,kZ,kZ];exact⟨fun⟨e,h1,h2⟩=>⟨e,h1,by rw[<-h e m h1];exact h2⟩,fun⟨e,h1,h2⟩=>⟨e,h1,by rw[h e m h1];exact h2⟩⟩
theorem zOH {es:List (Nat×Nat)}{B B':Nat->Bool}{i n:Nat}(hi:(i,n)∈es)(hu:∀ m,(i,m)∈es->m=n)(hB:∀ e,B' e=(B e || nqb e i))(m:Nat):zY m (PL B' es)=zY m (n::PL B es):=by rw[Bool.eq_iff_iff,kI,kI,kZ,List.mem_cons,kZ];constructor;{rintro⟨e,h1,h2⟩;rw[hB] at h2;simp only[Bool.or_eq_true] at h2;rcases h2 with h2|h2;{exact .inr ⟨e,h1,h2⟩};{have:=yC h2;subst this;exact .inl (hu m h1)}};{rintro (rfl|⟨e,h1,h2⟩);{exact⟨i,hi,by rw[hB,nqb_self];simp⟩};{exact⟨e,h1,by rw[hB,h2];rfl⟩}}
def scrO (n:Nat):Obj'->Obj':=xD (scr n)
theorem zN5 {ops:List Oper}{k:Nat}(D:DrawOk ops k){Q:Exit->Act->World->Prop}{K:PS->Prop}(hdst:∀ o,o∈ops->d7 N o=true)(hk:∀ ps' a' w' S' β',K ps'->Sim w0 S0 K0 N (zB ps'.tmps) ps'.objs a' w' S' β'->Q .normal a' w') {T0 T2:List (Nat×PV)} {O0 O2:List (Nat×Obj')} {pvs:List PV} {es:List (Nat×Nat)} {X:Nat->Obj'} {Ob:Nat->List (Nat×Obj')} (hkl:k<=ops.length) (hlen:pvs.length=(ops.take k).length) (hK:v8 ops (ops.drop k) ⟨gD (vP es) T2,O2⟩ K) (ht2:zB T2=wK (ops.take k) pvs (zB T0)) (hO2:∀ y,y∈O2↔eU es O0 X (fun j=>decide (j<k)) y) (hnd2:(O2.map Prod.fst).Nodup) (hes:∀ e m,(e,m)∈es->e<k/\m<1000000/\yK es e=some m) (hinj:∀ {i j n},yK es i=some n->yK es j=some n->i=j) (hst:∀ i o pv,(ops.take k)[i]?=some o->pvs[i]?=some pv->ApStep ops es (anc ops) (qB (vP es) O0) i o (wK ((ops.take k).take i) (pvs.take i) (zB T0)) pv (Ob i) (Ob (i+1))) (h0:∀ i n x0,i<k->yK es i=some n->z7 (Ob i) n=some x0->(n,x0)∈O0) (hX:∀ i n x x0,i<k->yK es i=some n->z7 (Ob i) n=some x0->Ob (i+1)=setO (Ob i) n x->X n=x) (hnd0:(O0.map Prod.fst).Nodup):∀ (fuel:Nat) (L:Array Bool) {a:Act} {w:World} {S:Nat->Nat->Prop} {β:Bm} {G:List (Nat×PV)} {objs':List (Nat×Obj')},L.size=ops.length->(∀ j,j<ops.length->k<=j->¬Lst L j)->(∀ i o,ops[i]?=some o->Lst L i->fQ (Lst L) o)->unl L ops.length<=fuel ->Sim w0 S0 K0 N (zB (gD (PL (fun i=>L.getD i false) es) G)) objs' a w S β->(∀ y,y∈objs'↔eU es O0 X (fun i=>L.getD i false) y)->At ops k pvs (zB T0) (Lst L) (zB G)->wpAny Pg .any ops.toArray Q fuel L a w:=by
 have hpl:k<=pvs.length:=by rw[hlen];simp;omega
 have htx:At ops k pvs (zB T0) (fun j=>j<k) (zB T2):=by
  (have htx:=At.text (τ0:=zB T0) D hlen k (Nat.le_refl _);have e1:(ops.take k).take k=ops.take k:=by rw[List.take_take,Nat.min_self]);have e2:pvs.take k=pvs:=List.take_of_length_le (by rw[hlen];simp;omega)
  rw[e1,e2,<-ht2] at htx;exact htx
 have hall1:∀ {L:Array Bool},(∀ j,j<k->Lst L j)->(∀ m,zY m (PL (fun i=>L.getD i false) es)=zY m (vP es))/\∀ m,zY m (PL (fun i=>L.getD i false) es)=zY m (PL (fun j=>decide (j<k)) es):=by intro L hfull;refine⟨fun m=>?_,zMJ fun e m he=>?_⟩;{rw[Bool.eq_iff_iff,kI,kI,kZ,bB];exact⟨fun⟨e,h1,_⟩=>⟨e,h1⟩,fun⟨e,h1⟩=>⟨e,h1,hfull e (hes e m h1).1⟩⟩};{have:=hfull e (hes e m he).1;unfold Lst at this;rw[this,decide_eq_true (hes e m he).1]}
 have hendT:∀ {G:List (Nat×PV)} {L:Array Bool},(∀ j,j<k->Lst L j)->At ops k pvs (zB T0) (Lst L) (zB G)->zB (gD (PL (fun i=>L.getD i false) es) G)=zB (gD (vP es) T2):=by
  (intro G L hfull hat;have hg:zB G=zB T2:=by funext t;exact hat.same D hpl htx fun j o hj ho hd=>.inl ⟨hfull j hj,hj⟩);funext t;rw[vR,vR,hg,(hall1 hfull).1,jE (hall1 hfull).1]
 intro fuel;induction fuel with
 |zero =>
  (intro L a w S β G objs' hsz hge hcl hun h hin hat;have hall:=c8 (Nat.le_zero.1 hun);have hall':∀ j,j<ops.length->Lst L j:=fun j hj=>by have h1:=hall j hj;rw[yX (by omega) true false] at h1;exact h1);have hkn:ops.length<=k:=by rcases Nat.lt_or_ge k ops.length with h'|h';{exact absurd (hall' k h') (hge k h' (Nat.le_refl _))};{exact h'}
  have hfull:∀ j,j<k->Lst L j:=fun j hj=>hall' j (by omega);refine mZ D hdst hk 0 k L (ps:=⟨gD (vP es) T2,O2⟩) (S:=S) (β:=β) (Nat.le_refl _) hkl hsz (fun j hj=>⟨fun _=>by omega,fun _=>hall' j hj⟩) (by omega) ?_ hK;show Sim w0 S0 K0 N (zB (gD (vP es) T2)) O2 a w S β;rw[<-hendT hfull hat];exact h.perm (fun x=>by rw[hO2 x,hin x,rH (hall1 hfull).2 x]) hnd2
 |succ fuel ih =>
  intro L a w S β G objs' hsz hge hcl hun h hin hat;by_cases hfull:∀ j,j<k->Lst L j
  ·refine mZ D hdst hk (fuel+1) k L (ps:=⟨gD (vP es) T2,O2⟩) (S:=S) (β:=β) (Nat.le_refl _) hkl hsz (fun j hj=>⟨fun hl=>?_,fun hj'=>hfull j hj'⟩) ?_ ?_ hK;{rcases Nat.lt_or_ge j k with h'|h';{exact h'};{exact absurd hl (hge j hj h')}}
   ·have cnt:∀ n,k<=n->n<=ops.length->n<=k+unl L n:=by
     intro n;induction n with
     |zero=>intro _ _;omega| succ n ihn =>
      intro hkn hn;simp only[unl];by_cases hk0:k=n+1;{omega}
      ·(have:=ihn (by omega) (by omega);have hnl:=hge n (by omega) (by omega);have:L.getD n true≠true:=by rw[yX (by omega) true false];exact hnl);rw[if_neg this]
       omega
    have:=cnt ops.length hkl (Nat.le_refl _);omega
   {show Sim w0 S0 K0 N (zB (gD (vP es) T2)) O2 a w S β;rw[<-hendT hfull hat];exact h.perm (fun x=>by rw[hO2 x,hin x,rH (hall1 hfull).2 x]) hnd2}
  ·have hun0:∃ j,j<k/\¬Lst L j/\∀ i,i<j->Lst L i:=by
    have:∀ n,n<=k->(∀ i,i<n->Lst L i)\/∃ j,j<k/\¬Lst L j/\∀ i,i<j->Lst L i:=by
     intro n;induction n with
     |zero=>intro _;exact .inl fun i h=>by omega| succ n ihn =>
      intro hn;rcases ihn (by omega) with h1|h1;{by_cases hx:Lst L n;{refine .inl fun i hi=>?_;by_cases e:i=n;{exact e ▸ hx};{exact h1 i (by omega)}};{exact .inr ⟨n,by omega,hx,h1⟩}};{exact .inr h1}
    rcases this k (Nat.le_refl _) with h1|h1;{exact absurd h1 hfull};{exact h1}
   obtain⟨j0,hj0,hnj0,hbelow⟩:=hun0;refine⟨fun hr=>?_,fun i hi=>?_⟩
   ·(exfalso;have hlt:j0<ops.length:=by omega);have hin:j0∈Region.ready .any ops.toArray L:=by
     refine mem_ready.2 ⟨?_,ops[j0],by simp[hlt],fun e he hb=>?_⟩
     ·rw[yX (by omega) true false];cases hx:L.getD j0 false with
      |false=>rfl| true=>exact absurd hx hnj0
     {exact hbelow e.on (D.back j0 _ (List.getElem?_eq_getElem hlt) e (by simpa using he) hb)}
    rw[hr] at hin;cases hin
   ·(obtain⟨h1,o,h2,h3⟩:=mem_ready.1 hi;have ho:ops[i]?=some o:=by simpa using h2);have hlt:i<ops.length:=(List.getElem?_eq_some_iff.1 ho).1
    have hE:fQ (Lst L) o:=fun e he hb=>h3 e (by simpa using he) hb;have hik:i<k:=by rcases Nat.lt_or_ge i k with h'|h';{exact h'};{exact absurd (y8 hcl ho hE (D.rest i j0 hlt h' (by omega))) hnj0}
    (have hp:pvs[i]?=some pvs[i]:=List.getElem?_eq_getElem (by omega);have hdo:=fM (hdst o (List.mem_of_getElem? ho));have hsize:i<L.size:=by omega);have hnl:¬Lst L i:=fun hl=>by rw[yX (by omega) true false] at h1;unfold Lst at hl;rw[h1] at hl;exact absurd hl (by decide)
    have hagree:∀ t,t∈uM ops o->wK ((ops.take k).take i) (pvs.take i) (zB T0) t=zB G t:=fun t ht=>At.same D hpl (At.text D hlen i (by omega)) hat fun j oj hj hoj hd=>by rcases D.look i o t j oj hik hj ho hoj ht hd with⟨q1,q2⟩|⟨q1,q2⟩;{exact .inl ⟨q1,y8 hcl ho hE q2⟩};{refine .inr ⟨by omega,fun hl=>?_⟩;have:=y8 hcl hoj (hcl j oj hoj hl) q2;rw[yX (by omega) true false] at h1;exact absurd this (by unfold Lst;rw[h1];decide)}
    (have hLs:∀ j,Lst (L.setIfInBounds i true) j↔Lst L j\/j=i:=xW hsize;have hB:∀ e,(L.setIfInBounds i true).getD e false=(L.getD e false || nqb e i):=fun e=>by have:=hLs e;unfold Lst at this;rw[Bool.eq_iff_iff,this,Bool.or_eq_true,nqb_iff]);have hnext:∀ {a':Act} {w':World} {S':Nat->Nat->Prop} {β':Bm} {G':List (Nat×PV)} {objs3:List (Nat×Obj')},zB G'=upd (zB G) o.dst pvs[i]->Sim w0 S0 K0 N (zB (gD (PL (fun e=>(L.setIfInBounds i true).getD e false) es) G')) objs3 a' w' S' β' ->
      (∀ y,y∈objs3↔eU es O0 X (fun e=>(L.setIfInBounds i true).getD e false) y)->wpAny Pg .any ops.toArray Q fuel (L.setIfInBounds i true) a' w':=by
     intro a' w' S' β' G' objs3 hT hsim g1;refine ih (L.setIfInBounds i true) (by simpa using hsz) (fun j hj hkj hl=>?_) (fun j oj hoj hl=>?_) ?_ hsim g1 (by rw[hT];exact hat.step D hik ho hp fun j=>xW hsize j);{rcases (xW hsize j).1 hl with hl|hl;{exact hge j hj hkj hl};{omega}};{intro e he hb;rw[xW hsize];rcases (xW hsize j).1 hl with hl|hl;{exact .inl (hcl j oj hoj hl e he hb)};{subst hl;rw[ho] at hoj;cases hoj;exact .inl (hE e he hb)}};{have:=rN h1 hlt;omega}
    have hG':zB (put ⟨G,[]⟩ o.dst pvs[i]).tmps=upd (zB G) o.dst pvs[i]:=yY _ _ _;have hlist:∀ e m,(e,m)∈es->L.getD e false=true->∃ oe,ops[e]?=some oe/\oe.dst=some m/\∃ s a b,zB G m=.osl m s a b:=fun e m he hle=>by
     obtain⟨q1,q2,q3⟩:=hes e m he;have hoe:ops[e]?=some ops[e]:=List.getElem?_eq_getElem (by omega);have hpe:pvs[e]?=some pvs[e]:=List.getElem?_eq_getElem (by omega);cases hst e ops[e] pvs[e] (by rw[List.getElem?_take_of_lt q1];exact hoe) hpe with
     |pure he' _ _=>rw[he'] at q3;cases q3
     |app he' hd hg h0' hpv _ _ _ _ _ =>
      rw[he'] at q3;cases q3;exact⟨_,hoe,hd,_,_,_,by rw[hat.hit e _ _ _ q1 hle hoe hpe hd,hpv]⟩
    have hPn:∀ n,yK es i=some n->zY n (PL (fun e=>L.getD e false) es)=false:=fun n hn=>by
     cases hx:zY n (PL (fun e=>L.getD e false) es) with
     |false=>rfl| true =>
      obtain⟨e,q1,q2⟩:=kZ.1 (wJ hx);have:=hinj (hes e n q1).2.2 hn;subst this;exact absurd q2 hnl
    have hstep:=hst i o pvs[i] (by rw[List.getElem?_take_of_lt hik];exact ho) hp;generalize hPP:PL (fun e=>L.getD e false) es=P at *
    cases hstep with
    | @app n s o' l' x x0 he hd hg hget hpv hx0 hx hfix hgo hO =>
     (have hXx:X n=x:=hX i n x x0 hik he hget hO;have hin0:(n,x0)∈O0:=h0 i n x0 hik he hget;have hnP:=hPn n he;have hino:(n,x0)∈objs':=by rw[hin];refine⟨x0,hin0,?_⟩;show x0=scO (PL _ es) (match zY n (PL _ es) with|true=>X n|false=>x0);rw[hPP,hnP];exact (hx0 P).symm);have hgetr:z7 objs' n=some x0:=wH h.obj.nd hino;have hfixr:∀ t,t∈uM ops o->zB (gD P G) t=wK ((ops.take k).take i) (pvs.take i) (zB T0) t:=fun t ht=>by
      rw[vR,hagree t ht];cases hm:zY t P with
      |true=>rfl| false =>
       rw[<-hagree t ht];rcases hfix t ht with⟨a1,b1,c1,e⟩|e;{rw[e];simp only[scC,scA,hnP]};{exact e P}
     (have hmn:=(hes i n (uV he)).2.1;have hs0:=hgo (gD P G) objs' hfixr hgetr (zEC hmn _ _);have hPL:∀ m,zY m (PL (fun e=>(L.setIfInBounds i true).getD e false) es)=zY m (n::P):=fun m=>by rw[<-hPP];exact zOH (uV he) (fun m' hm'=>by have:=(hes i m' hm').2.2;rw[he] at this;cases this;rfl) hB m);refine jK ho (.inl ⟨by simp[Region.wanted,hg],jG (ps:=⟨gD P G,objs'⟩) h hs0 hdo fun ps' a' w' S' β' hK hsim=>?_⟩);obtain⟨hK1,hK2⟩:=hK;rw[hK2] at hsim;have hTT:zB ps'.tmps=zB (gD (PL (fun e=>(L.setIfInBounds i true).getD e false) es) (put ⟨G,[]⟩ o.dst pvs[i]).tmps):=by
      (rw[hK1];funext t;rw[vR,hG',hd,hPL t];show (if t=n then pvs[i] else scr n (zB (gD P G) t))=match nqb n t || zY t P with|true=>(if t=n then pvs[i] else zB G t)|false=>scC _ (if t=n then pvs[i] else zB G t));by_cases htn:t=n
      {subst htn;rw[nqb_self,if_pos rfl,if_pos rfl];rfl}
      ·have:nqb n t=false:=by
        cases hx:nqb n t with
        |false=>rfl| true=>exact absurd (yC hx).symm htn
       rw[this,Bool.false_or,if_neg htn,if_neg htn,vR];cases hm:zY t P with
       |true =>
        rw[<-hPP] at hm;obtain⟨e,q1,q2⟩:=kZ.1 (wJ hm);obtain⟨oe,_,_,s1,a1,b1,e1⟩:=hlist e t q1 q2;show scr n (zB G t)=zB G t;rw[e1];simp only[scr,sc0];rw[show nqb t n=false by rw[zCQ];exact this]
       |false =>
        show scr n (scC P (zB G t))=scC _ (zB G t);rw[zFH];exact (jE hPL _).symm
     (rw[hTT] at hsim;refine hnext hG' hsim fun y=>?_;have hmemo:∀ z:Nat×Obj',z∈yS (scr n) (xC objs' n)↔∃ o1,(z.1,o1)∈objs'/\z.1≠n/\z.2=scrO n o1:=fun z=>by constructor;{intro hz;obtain⟨o1,q1,q2⟩:=xO (n:=z.1) (o:=z.2) _ hz;obtain⟨q3,q4⟩:=xP q1;exact⟨o1,q3,q4,q2⟩};{rintro⟨o1,q1,q2,q3⟩;have q4:=dU q1 q2;have:(z.1,scrO n o1)∈yS (scr n) (xC objs' n):=dS (scr n) q4;rw[<-q3] at this;exact this});rw[List.mem_append,List.mem_singleton,hmemo];unfold eU;have hsc:∀ o1:Obj',scrO n (scO P o1)=scO (n::P) o1:=fun o1=>mT _ _ _ (zFH n P) o1;constructor
     ·rintro (⟨o1,q1,q2,q3⟩|q)
      ·rw[hin] at q1;obtain⟨o2,q4,q5⟩:=q1;simp only at q4 q5;refine⟨o2,q4,?_⟩;rw[hPP] at q5;rw[q3,q5,hsc,dI hPL,hPL];show _=scO (n::P) (match nqb n y.1 || zY y.1 P with|true=>X y.1|false=>o2);rw[show nqb n y.1=false by
        cases hx:nqb n y.1 with
        |false=>rfl| true=>exact absurd (yC hx).symm q2]
       rfl
      {subst q;refine⟨x0,hin0,?_⟩;rw[hPL,dI hPL];show x=scO (n::P) (match nqb n n || zY n P with|true=>X n|false=>x0);rw[nqb_self,Bool.true_or];show x=scO (n::P) (X n);rw[hXx,hx]}
     ·rintro⟨o2,q4,q5⟩;rw[hPL,dI hPL] at q5;by_cases hy:y.1=n;{right;have q6:y.2=scO (n::P) (match nqb n y.1 || zY y.1 P with|true=>X y.1|false=>o2):=q5;rw[hy,nqb_self,Bool.true_or] at q6;have q7:y.2=scO (n::P) (X n):=q6;rw[hXx,hx] at q7;cases y;simp only at hy q7;rw[hy,q7]}
      ·left;have hne:nqb n y.1=false:=by
        cases hx:nqb n y.1 with
        |false=>rfl| true=>exact absurd (yC hx).symm hy
       have q6:y.2=scO (n::P) (match nqb n y.1 || zY y.1 P with|true=>X y.1|false=>o2):=q5;rw[hne,Bool.false_or] at q6;refine⟨scO P (match zY y.1 P with|true=>X y.1|false=>o2),?_,hy,?_⟩;{rw[hin];exact⟨o2,q4,by rw[hPP]⟩};{rw[q6,hsc]}
    |pure he hs1 hO =>
     have hPL:∀ m,zY m (PL (fun e=>(L.setIfInBounds i true).getD e false) es)=zY m P:=fun m=>by
      rw[<-hPP];refine zMJ (fun e m' hm'=>?_) m;rw[hB];have:nqb e i=false:=by
       cases hx:nqb e i with
       |false=>rfl| true=>have:=yC hx;subst this;exact absurd hm' (iJ he)
      rw[this,Bool.or_false]
     have hsub:∀ m,zY m P=true->zY m (freeN (anc ops) i es)=true:=fun m hm=>by
      rw[<-hPP] at hm;obtain⟨e,q1,q2⟩:=kZ.1 (wJ hm);refine dQ (mE.2 ⟨e,q1,?_⟩);cases hx:((anc ops).getD e 0).testBit i with
      |false=>rfl| true =>
       obtain⟨oe,hoe,_⟩:=hlist e m q1 q2;exact absurd (y8 hcl hoe (hcl e oe hoe q2) hx) hnl
     have hweak:∀ t v,Rep w S β v (zB (gD P G) t)->Rep w S β v (scC (freeN (anc ops) i es) (zB G t)):=fun t v hr=>by
      rw[vR] at hr;cases hm:zY t P with
      |true=>rw[hm] at hr;exact aF hr| false =>
       rw[hm] at hr;have:=aF (P:=freeN (anc ops) i es) hr;simp only at this;rw[zCI hsub] at this;exact this
     have hobj:∀ n o',(n,o')∈yS (scC (freeN (anc ops) i es)) (qB (vP es) O0)->∃ o,(n,o)∈objs'/\(ObjAt w S β n o->ObjAt w S β n o')/\(∀ i,uZ o i->uZ o' i)/\∀ b,Own β n o' b->Own β n o b:=fun n o' hm=>by
      obtain⟨o1,q1,q2⟩:=(j9 _).1 hm;simp only at q1 q2;obtain⟨q3,q4⟩:=iE q1;have hnn:zY n P=false:=by
       cases hx:zY n P with
       |false=>rfl| true =>
        rw[<-hPP] at hx;obtain⟨e,r1,_⟩:=kZ.1 (wJ hx);exact absurd (bB.2 ⟨e,r1⟩) q4
      refine⟨scO P o1,(hin _).2 ⟨o1,q3,by rw[hPP,hnn]⟩,fun hat=>?_,fun j hj=>?_,fun b hb=>?_⟩;{rw[q2,<-zCH hsub];exact zJJ hat};{rw[q2,<-zCH hsub];exact zFI hj};{rw[q2] at hb;exact zIL (wI hb)}
     (have hndl:((yS (scC (freeN (anc ops) i es)) (qB (vP es) O0)).map Prod.fst).Nodup:=by rw[kB];exact (eC _ _).nodup hnd0);have hw2:=h.weak (τ':=fun t=>scC (freeN (anc ops) i es) (zB G t)) hweak hndl hobj;have hs2:x7 false (yS (scC (freeN (anc ops) i es)) (qB (vP es) O0)) ops o (fun t=>scC (freeN (anc ops) i es) (zB G t)) pvs[i]:=fV (fun t ht=>by rw[hagree t ht]) hs1;have hndst:∀ d,o.dst=some d->zY d P=false:=fun d hd=>by
      cases hx:zY d P with
      |false=>rfl| true =>
       rw[<-hPP] at hx;obtain⟨e,q1,q2⟩:=kZ.1 (wJ hx);obtain⟨oe,hoe,hde,_⟩:=hlist e d q1 q2;have hek:=(hes e d q1).1;have:=gL D.dst (by rw[List.getElem?_take_of_lt hek];exact hoe) (by rw[List.getElem?_take_of_lt hik];exact ho) hde hd;subst this;exact absurd q2 hnl
     have hTT:upd (zB (gD P G)) o.dst (scC P pvs[i])=zB (gD (PL (fun e=>(L.setIfInBounds i true).getD e false) es) (put ⟨G,[]⟩ o.dst pvs[i]).tmps):=by
      funext t;rw[vR,hG',hPL t];cases hd:o.dst with
      |none =>
       simp only[upd];rw[vR];cases zY t P with
       |true=>rfl| false=>exact (jE hPL _).symm
      |some d =>
       simp only[upd];by_cases htd:t=d;{subst htd;rw[if_pos rfl,if_pos rfl,hndst t hd];exact (jE hPL _).symm}
       ·rw[if_neg htd,if_neg htd,vR];cases zY t P with
        |true=>rfl| false=>exact (jE hPL _).symm
     (have hfin:∀ y,y∈objs'↔eU es O0 X (fun e=>(L.setIfInBounds i true).getD e false) y:=fun y=>by rw[hin y];exact rH (fun m=>by rw[hPP,hPL]) y);refine jK ho ?_;rcases uW hw2.tmp hs2 with⟨hw,hA⟩|⟨hw,hBB⟩
     {refine .inl ⟨hw,sL hw2 hA fun pv w' S' v hpv l hr=>?_⟩;refine hnext (S':=S') (β':=β) hG' ?_ hfin;rw[<-hTT];exact (h.go l).put o.dst hdo (aF (hr.le _ hpv))};{refine .inr ⟨hw,hnext (S':=S) (β':=β) hG' ?_ hfin⟩;rw[<-hTT];refine h.put o.dst hdo (aF ?_);rw[hBB];exact aG _ _ _}
theorem j3 {m n:Nat}{x:Obj'}(hne:m≠n):∀ (l:List (Nat×Obj')),z7 (setO l m x) n=z7 l n
 |[]=>by
  show (match nqb m n with|true=>some x|false=>none)=none;cases hx:nqb m n with
  |true=>exact absurd (yC hx) hne| false=>rfl
 |(u,v)::r=>by
  unfold setO;cases hu:nqb u m with
  |true =>
   have hum:=yC hu;have h2:nqb m n=false:=by
    cases hx:nqb m n with
    |false=>rfl| true=>exact absurd (yC hx) hne
   show (match nqb m n with|true=>some x|false=>z7 r n)=(match nqb u n with|true=>some v|false=>z7 r n);rw[hum,h2]
  |false =>
   show (match nqb u n with|true=>some v|false=>z7 (setO r m x) n)=(match nqb u n with|true=>some v|false=>z7 r n);rw[j3 hne r]
section
variable {a:Act} {w:World} {S:Nat->Nat->Prop} {β:Bm}
theorem zB1 (ops:List Oper)(l:List Bool):Region.ready .any ops.toArray l.toArray=rdyL ops l:=by
 unfold Region.ready rdyL;simp only[List.size_toArray];congr 1;funext i;have e1:l.toArray.getD i true=l.getD i true:=by simp[Array.getD_eq_getD_getElem?,List.getD_eq_getElem?_getD]
 rw[e1];congr 1;rw[List.getElem?_toArray];cases ops[i]? with
 |none=>rfl| some o =>
  simp only[Option.map_some,Option.getD_some];unfold zGL;rw[<-Array.all_toList];congr 1;funext e;simp[Array.getD_eq_getD_getElem?,List.getD_eq_getElem?_getD]
theorem zHY {o:Oper}{a:Act}{w:World}{K:Act->World->Prop}{Q Q':Exit->Act->World->Prop}(h:∀ e a w,Q e a w->Q' e a w)(hh:o.wp Pg a w K Q):o.wp Pg a w K Q':=by
 unfold Oper.wp at *
 generalize (execOp a.eval o).run Pg w=r at *
 cases r with
 |ok n w' =>
  cases n with
  |enter f args =>
   rw[Oper.upon_enter] at *
   refine hh.mono fun e w'' q=>?_;cases e with
   |returned v=>exact q| panicked c=>exact h _ _ _ q| outgrown=>obtain⟨a',w1,q⟩:=q;exact⟨a',w1,h _ _ _ q⟩
  |_=>exact hh
 |halt x w' =>
  cases x with
  |panic v=>exact h _ _ _ hh| _=>exact hh
theorem mL {ops:Array Oper}{Q Q':Exit->Act->World->Prop}(h:∀ e a w,Q e a w->Q' e a w):∀ (f:Nat) (l:Array Bool) (a:Act) (w:World),wpAny Pg .any ops Q f l a w->wpAny Pg .any ops Q' f l a w
 |0,l,a,w,hh=>⟨hh.1,h _ _ _ hh.2⟩| f+1,l,a,w,hh=>⟨fun e=>h _ _ _ (hh.1 e),fun i hi=>by
  have:=wpOp_mono (fun a w=>mL h f _ a w) (hh.2 i hi);unfold wpOp at *
  split;{rename_i e;rw[e] at this;exact this}
  ·rename_i o e;rw[e] at this;simp only at this;split;{rename_i hw;rw[if_pos hw] at this;rcases this with q|⟨q1,a',w1,q2⟩;{exact .inl (zHY h q)};{exact .inr ⟨q1,a',w1,h _ _ _ q2⟩}}
   ·rename_i hw;rw[if_neg hw] at this;exact this⟩
theorem zI5 {o:Oper}{τ:Nat->PV}(hc:calm o τ=true)(he:∀ x,Rep w S β (a.eval x) (ev τ x)){objs:List (Nat×Obj')}{K:PV->Prop}(hs:sop objs o.op (ev τ) K):∃ pv v,K pv/\Rep w S β v pv/\∀ w',(execOp a.eval o).run Pg w'=.ok (.value v) w':=by unfold calm at hc;split at hc;{rename_i x hop;rw[hop] at hs;exact⟨_,_,hs,he x,fun w'=>by simp[execOp,hop]⟩};{rename_i x hop;rw[hop] at hs;have hx:=he x;split at hc;{rename_i n off e;rw[e] at hx;obtain⟨b,hβ,hv⟩:=uF hx;simp only[sop] at hs;rw[e] at hs;exact⟨_,_,hs,.ptr hβ,fun w'=>by simp[execOp,hop,hv]⟩};{cases hc}};{rename_i t x i hop;rw[hop] at hs;have hx:=he x;split at hc;{rename_i n fs z n' off ht e;split at hc;{rename_i f hf;rw[e] at hx;obtain⟨b,hβ,hv⟩:=uF hx;obtain⟨o1,s1,g1⟩:=f;obtain⟨fields,fld,h1,h2,h3,h4,h5,h6⟩:=iV ht hf;simp only[sop] at hs;rw[ht,e] at hs;simp only[hf] at hs;refine⟨_,_,hs,.ptr hβ,fun w'=>?_⟩;have:=fZ (w:=w') ht hf b off;simp[execOp,hop,hv,this]};{cases hc}};{cases hc}};{cases hc}
theorem sI {ops:List Oper}{l:List Bool}{τ:Nat->PV}:∀ {r:List Nat} {j:Nat},oM ops l τ r=some j->j∈r/\∃ o,ops[j]?=some o/\calm o τ=true/\l8 o=true/\Region.free .any ops.toArray l.toArray j=true
 |[],j,h=>by cases h
 |i::r,j,h=>by
  unfold oM at h;cases ho:ops[i]? with
  |none =>
   rw[ho] at h;have:=sI h;exact⟨List.mem_cons_of_mem _ this.1,this.2⟩
  |some o =>
   rw[ho] at h;simp only at h;cases hc:calm o τ&&l8 o&&Region.free .any ops.toArray l.toArray i with
   |false =>
    rw[hc] at h;have:=sI h;exact⟨List.mem_cons_of_mem _ this.1,this.2⟩
   |true =>
    rw[hc] at h;cases h;simp only[Bool.and_eq_true] at hc;exact⟨List.mem_cons_self,o,ho,hc.1.1,hc.1.2,hc.2⟩
theorem zDS {f:Nat->Prop}:∀ {r:List Nat},allW f r->∀ j,j∈r->f j
 |[],_,j,h=>by cases h
 |i::r,h,j,hj=>by rcases List.mem_cons.1 hj with e|e;{rw[e];exact h.1};{exact zDS h.2 j e}
theorem pA {o:Oper}(h:l8 o=true)(y:Nat->Option Value):o.guard=none:=by
 unfold l8 at h;cases hg:o.guard with
 |none=>rfl| some g=>rw[hg] at h;cases h
theorem zHL {o:Oper}{ps:PS}{K:PS->Prop}(hc:calm o (zB ps.tmps)=true)(h:j2 o ps K):sop ps.objs o.op (ev (zB ps.tmps)) (fun v=>K (put ps o.dst v)):=by unfold calm at hc;split at hc;{rename_i x hop;unfold j2 at h;rw[hop] at h ⊢;exact h};{rename_i x hop;unfold j2 at h;rw[hop] at h ⊢;exact h};{rename_i t x i hop;unfold j2 at h;rw[hop] at h ⊢;exact h};{cases hc}
theorem zBJ {ops:List Oper}{K:PS->Prop}(hsel:Region.noSelect ops.toArray=true)(hdst:∀ o,o∈ops->d7 N o=true):∀ (f:Nat) (l:List Bool) (ps:PS) {a:Act} {w:World} {S:Nat->Nat->Prop} {β:Bm},eR ops f l ps K->Sim w0 S0 K0 N (zB ps.tmps) ps.objs a w S β ->wpAny Pg .any ops.toArray (fun e a w=>match e with|.normal=>∃ ps' S' β',K ps'/\Sim w0 S0 K0 N (zB ps'.tmps) ps'.objs a w S' β'|_=>False) f l.toArray a w
 |0,l,ps,a,w,S,β,hs,h=>by
  unfold eR at hs;unfold wpAny;rw[zB1];cases hr:rdyL ops l with
  |nil=>rw[hr] at hs;exact⟨rfl,ps,S,β,hs,h⟩| cons i r=>rw[hr] at hs;exact hs.elim
 |f+1,l,ps,a,w,S,β,hs,h=>by
  unfold eR at hs;cases hr:rdyL ops l with
  |nil =>
   rw[hr] at hs;exact wpAny_done (by rw[zB1,hr]) ⟨ps,S,β,hs,h⟩ _
  |cons i r =>
   (rw[hr] at hs;simp only at hs;have hd:∀ {o:Oper},o∈ops->∀ t,o.dst=some t->t<N:=fun {o} ho t ht=>by have:=hdst o ho;unfold d7 at this;rw[ht] at this;simpa using this);cases ht:oM ops l (zB ps.tmps) (i::r) with
   |some j =>
    rw[ht] at hs;simp only at hs;obtain⟨hj,o,ho,hc,hg,hf⟩:=sI ht;unfold zHQ at hs;rw[ho] at hs;simp only[hg] at hs;have hg':=pA hg (fun _=>none);obtain⟨pv,v,h1,h2,h3⟩:=zI5 (w:=w) (S:=S) (β:=β) (a:=a) hc (fun x=>h.eval x) (zHL hc hs);refine wpAny_take (i:=j) (oi:=o) (v:=v) (by rw[List.getElem?_toArray];exact ho) hsel hf (by rw[zB1,hr];simpa using hj) (fun c a w q=>q.elim) (.inl ⟨by simp[Region.wanted,hg'],h3⟩) ?_;have:=zBJ hsel hdst f (l.set j true) _ h1 (x5 h o.dst (hd (List.mem_of_getElem? ho)) h2);rwa [<-List.setIfInBounds_toArray] at this
   |none =>
    rw[ht] at hs;simp only at hs;refine wpAny_all (rs:=i::r) (by rw[zB1,hr]) (by simp) fun j hj=>?_;have hs':=zDS hs j hj;unfold zHQ at hs';unfold wpOp;rw[List.getElem?_toArray];cases ho:ops[j]? with
    |none=>rw[ho] at hs';exact hs'.elim| some o =>
     rw[ho] at hs';simp only at hs' ⊢;cases hg:l8 o with
     |false=>rw[hg] at hs';exact hs'.elim| true =>
      rw[hg] at hs';have hg':=pA hg (fun _=>none);rw[if_pos (by simp[Region.wanted,hg'])];refine .inl (jG h hs' (hd (List.mem_of_getElem? ho)) fun ps' a' w' S' β' hK hsim=>?_);have:=zBJ hsel hdst f (l.set j true) ps' hK hsim;rwa [<-List.setIfInBounds_toArray] at this
end
theorem zEE {ops:List Oper}{ps:PS}{K:PS->Prop}(hs:DrawK ops ps K){Q:Exit->Act->World->Prop}(hdst:∀ o,o∈ops->d7 N o=true)(hk:∀ ps' a' w' S' β',K ps'->Sim w0 S0 K0 N (zB ps'.tmps) ps'.objs a' w' S' β'->Q .normal a' w') {a:Act} {w:World} {S:Nat->Nat->Prop} {β:Bm} (h:Sim w0 S0 K0 N (zB ps.tmps) ps.objs a w S β):wpAny Pg .any ops.toArray Q ops.length (Array.replicate ops.length false) a w.drew:=by
 have hnone:∀ j,¬Lst (Array.replicate ops.length false) j:=by intro j hj;unfold Lst at hj;rcases Nat.lt_or_ge j ops.length with h'|h';{simp[h'] at hj};{simp[Array.getElem?_eq_none,h'] at hj}
 have hunl:∀ n,unl (Array.replicate ops.length false) n<=n:=by
  intro n;induction n with
  |zero=>exact Nat.le_refl _| succ n ih=>simp only[unl];split <;> omega
 rcases hs.h with⟨k,ps',hw,hd,hs⟩|⟨k,ps',hw,hd,hm,hs⟩|⟨k,i0,n,us,ps',hw,hd,hm,hs⟩|⟨k,es,ps',hw,hd,he,hm,hs⟩|⟨k,es,ps',hw,hd,he,hs⟩|⟨σ,inv,good,ps',hw,hsel,hs,hks⟩
 ·(obtain⟨S1,β1,h1⟩:=hw.sound h;have D:=jX hd;have hkl:k<=ops.length:=by rcases Nat.lt_or_ge ops.length k with h'|h';{obtain⟨o,ho⟩:=D.full ops.length h';simp at ho};{exact h'});obtain⟨pvs,ps2,g1,g2,g3,g4,g5⟩:=n9 _ hs;have hno:∀ i o,i<k->ops[i]?=some o->xR o=none:=by
   (intro i o hi ho;have hlt:i<pvs.length:=by rw[g1];simp;have:=(List.getElem?_eq_some_iff.1 ho).1;omega);exact (nE (g5 i o pvs[i] (by rw[List.getElem?_take_of_lt hi];exact ho) (List.getElem?_eq_getElem hlt))).1
  refine zMG (ms:=[]) D hdst hk hkl g1 (by rw[List.append_nil,<-g3];exact g2) (fun x=>⟨fun q=>by simp at q,fun⟨i,o,q1,q2,q3⟩=>by rw[hno i o q1 q2] at q3;cases q3⟩) (by rw[List.append_nil];exact h1.obj.nd) (fun n x q=>by simp at q) g4
   (fun i o pv q1 q2=>(nE (g5 i o pv q1 q2)).2) ops.length _ (by simp) (fun j _ _=>hnone j) (fun i o _ hl=>absurd hl (hnone i)) (hunl _) (h1.go (v7 h1.ld.bnd)) (fun x=>⟨.inl,fun q=>q.resolve_right fun⟨i,_,_,q2,_⟩=>hnone i q2⟩)
   ⟨fun j o t pv _ hl=>absurd hl (hnone j),fun t _=>rfl⟩
 ·(obtain⟨S1,β1,h1⟩:=hw.sound h;have D:=jX hd;have hkl:k<=ops.length:=by rcases Nat.lt_or_ge ops.length k with h'|h';{obtain⟨o,ho⟩:=D.full ops.length h';simp at ho};{exact h'});obtain⟨pvs,ps2,g1,⟨g2a,g2⟩,g3,g4,g5⟩:=oX _ hs;simp only[Bool.and_eq_true] at hm;have hms:=fun x=>pH (k:=k) (ops:=ops) (x:=x);refine zMG (ms:=yO (ops.take k)) D hdst hk hkl g1 (by rw[<-g3];exact g2) hms ?_ ?_ g4
   g5 ops.length _ (by simp) (fun j _ _=>hnone j) (fun i o _ hl=>absurd hl (hnone i)) (hunl _) (h1.go (v7 h1.ld.bnd)) (fun x=>⟨.inl,fun q=>q.resolve_right fun⟨i,_,_,q2,_⟩=>hnone i q2⟩)
   ⟨fun j o t pv _ hl=>absurd hl (hnone j),fun t _=>rfl⟩
  {rw[List.map_append,List.nodup_append];refine⟨h1.obj.nd,uT hm.1,?_⟩;intro x hx y hy e;subst e;obtain⟨⟨m,o⟩,q1,rfl⟩:=List.mem_map.1 hx;obtain⟨⟨m',o'⟩,q2,e2⟩:=List.mem_map.1 hy;have:=bQ hm.2 q2;simp only[yE,Bool.and_eq_true] at this;exact (yA this.2 q1).1 e2.symm};{intro n x hx;have q1:=bQ hm.2 hx;simp only[yE,Bool.and_eq_true] at q1;exact⟨wG q1.2,xZ q1.1,fun m o q=>yA q1.2 q,fun t ht=>iD ht (t6 g2a hx)⟩}

 ·(obtain⟨S1,β1,h1⟩:=hw.sound h;have D:=jX hd;have hkl:k<=ops.length:=by rcases Nat.lt_or_ge ops.length k with h'|h';{obtain⟨o,ho⟩:=D.full ops.length h';simp at ho};{exact h'});simp only[zEM,Bool.and_eq_true,List.all_eq_true,List.mem_range] at hm;obtain⟨⟨hm1,hm2⟩,hm3⟩:=hm;have hi0:=bN hm1;cases hos:ops[i0]? with
  |none=>rw[hos] at hm2;cases hm2
  |some os =>
   rw[hos] at hm2;simp only at hm2;obtain⟨hg,hnd,ts,ad,v,hop⟩:os.guard=none/\os.dst=none/\∃ ts ad v,os.op=.store ts ad v:=by split at hm2;{rename_i q1 q2 q3;exact⟨q1,q2,_,_,_,q3⟩};{cases hm2}
   (unfold zEL at hs;obtain⟨pvs1,p1,g1,g2,g3,g4,g5⟩:=zJE _ 0 hs;rw[hos] at g2;simp only at g2;obtain⟨objs2,q0,q1,q2⟩:=zH4 (T:=p1.tmps) (objs:=p1.objs) hop hnd g2.2 g2.1;rw[g3] at q0;obtain⟨pvs2,p3,e1,e2,e3,e4,e5⟩:=n9 _ q1;have hlt0:i0<ops.length:=by omega);have l1:(ops.take i0).length=i0:=by simp;omega
   have hsplit:ops.take k=ops.take i0++os::(ops.take k).drop (i0+1):=by
    (have a1:(ops.take k)[i0]?=some os:=by rw[List.getElem?_take_of_lt hi0];exact hos);obtain⟨a2,a3⟩:=List.getElem?_eq_some_iff.1 a1
    have a4:=List.take_append_drop i0 (ops.take k);rw[List.take_take,Nat.min_eq_left (by omega),List.drop_eq_getElem_cons a2,a3] at a4;exact a4.symm
   (have hpl:(pvs1++PV.any::pvs2).length=(ops.take k).length:=by have:=congrArg List.length hsplit;rw[this];simp only[List.length_append,List.length_cons,g1,e1]);have hτ0:wK ((ops.take k).take i0) ((pvs1++PV.any::pvs2).take i0) (zB ps'.tmps)=zB p1.tmps:=by rw[g4,List.take_take,Nat.min_eq_left (by omega)];congr 1;rw[List.take_append_of_le_length (by omega),List.take_of_length_le (by omega)]
   (have hp3:p3=⟨p3.tmps,objs2⟩:=by cases p3;cases e3;rfl);refine zN4 (T0:=ps'.tmps) (objs1:=ps'.objs) (objs2:=objs2) (ps2:=p3) (pvs:=pvs1++PV.any::pvs2) (os:=os) D hdst hk hi0 hos hg hkl hpl (by rw[<-hp3];exact e2) ?_ ?_ ?_
    ops.length _ (by simp) (fun j _ _=>hnone j) (fun i o _ hl=>absurd hl (hnone i)) (hunl _) (h1.go (v7 h1.ld.bnd)) (fun q=>absurd q (hnone i0)) (fun _=>rfl)
    ⟨fun j o t pv _ hl=>absurd hl (hnone j),fun t _=>rfl⟩
   {rw[hsplit,nZ (by omega)];show _=wK _ pvs2 (upd (wK (ops.take i0) pvs1 (zB ps'.tmps)) os.dst .any);rw[hnd,<-g4,e4];rfl}
   ·intro i o pv hik hne ho hp;have hb:=hm3 i hik;rw[ho] at hb;have hne':nqb i i0=false:=by
     cases hx:nqb i i0 with
     |false=>rfl| true=>exact absurd (yC hx) hne
    rw[hne',Bool.false_or] at hb;simp only[Bool.or_eq_true,Bool.and_eq_true] at hb;rcases Nat.lt_or_gt_of_ne hne with hlt|hlt
    ·have hs1:x7 false ps'.objs ops o (wK ((ops.take k).take i) ((pvs1++PV.any::pvs2).take i) (zB ps'.tmps)) pv:=by
      (have a1:(ops.take i0)[i]?=some o:=by rw[List.getElem?_take_of_lt hlt];exact ho);have a2:pvs1[i]?=some pv:=by rw[List.getElem?_append_left (by omega)] at hp;exact hp
      have:=(g5 i o pv a1 a2).1;rw[List.take_take,Nat.min_eq_left (by omega)] at this ⊢;rw[List.take_append_of_le_length (by omega)];exact this
     refine⟨.inl hs1,?_⟩;rcases hb with ((hb|hb)|hb)|hb;{exact .inl (mM hb hs1)};{exact .inr hb.2};{have:=bN hb.1;omega}
     ·(refine .inl (n8 (q0 (by intro e;rw[e] at hb;simp[zY] at hb)) ?_);have a1:(ops.take i0)[i]?=some o:=by rw[List.getElem?_take_of_lt hlt];exact ho);have a2:pvs1[i]?=some pv:=by rw[List.getElem?_append_left (by omega)] at hp;exact hp
      have:=(g5 i o pv a1 a2).2 (by rw[Nat.zero_add];exact hb.2);rw[List.take_take,Nat.min_eq_left (by omega)] at this ⊢;rw[List.take_append_of_le_length (by omega)];exact this
    ·have hs2:x7 false objs2 ops o (wK ((ops.take k).take i) ((pvs1++PV.any::pvs2).take i) (zB ps'.tmps)) pv:=by
      (obtain⟨m,rfl⟩:∃ m,i=i0+1+m:=⟨i-(i0+1),by omega⟩;have a1:((ops.take k).drop (i0+1))[m]?=some o:=by rw[List.getElem?_drop,List.getElem?_take_of_lt hik];exact ho);have a2:pvs2[m]?=some pv:=by
       (rw[List.getElem?_append_right (by omega)] at hp;have:i0+1+m-pvs1.length=m+1:=by omega);rw[this,List.getElem?_cons_succ] at hp
       exact hp
      have:=e5 m o pv a1 a2;have b1:(ops.take k).take (i0+1+m)=ops.take i0++os::((ops.take k).drop (i0+1)).take m:=by
       (have hx:=congrArg (List.take (i0+1+m)) hsplit;rw[hx,List.take_append];have c1:(ops.take i0).take (i0+1+m)=ops.take i0:=List.take_of_length_le (by omega);have c2:i0+1+m-(ops.take i0).length=m+1:=by omega);rw[c1,c2,List.take_succ_cons]
      have b2:(pvs1++PV.any::pvs2).take (i0+1+m)=pvs1++PV.any::pvs2.take m:=by
       (rw[List.take_append];have c1:pvs1.take (i0+1+m)=pvs1:=List.take_of_length_le (by omega);have c2:i0+1+m-pvs1.length=m+1:=by omega);rw[c1,c2,List.take_succ_cons]
      rw[b1,b2,nZ (by omega)];show x7 false _ _ _ (wK _ _ (upd (wK (ops.take i0) pvs1 (zB ps'.tmps)) os.dst .any)) _;rw[hnd,<-g4];exact this
     refine⟨?_,.inl hs2⟩;rcases hb with ((hb|hb)|hb)|hb;{exact .inl (mM hb hs2)};{have:=bN hb.1;omega};{exact .inr hb.2};{have:=bN hb.1;omega}
   ·intro T hT;have:=q2 (fun p=>zB p.tmps=upd (zB T) os.dst ((pvs1++PV.any::pvs2).getD i0 .any)/\p.objs=objs2) T (fun x hx=>?_) (by rw[hnd];exact⟨rfl,rfl⟩);{rw[g3] at this;exact this}
    ·cases x with
     |tmp t =>
      show zB T t=zB p1.tmps t;rw[hT t ?_,hτ0];unfold uM;rw[hg];refine List.mem_append_left _ ?_;rw[List.mem_filterMap];exact⟨_,hx,rfl⟩
     |_=>rfl
 ·(obtain⟨S1,β1,h1⟩:=hw.sound h;have D:=jX hd;have hkl:k<=ops.length:=by rcases Nat.lt_or_ge ops.length k with h'|h';{obtain⟨o,ho⟩:=D.full ops.length h';simp at ho};{exact h'});simp only[Bool.and_eq_true] at hm;simp only[efOk,Bool.and_eq_true,List.all_eq_true,List.mem_range] at he;obtain⟨he1,he2⟩:=he;have hinj:∀ {i j n},yK es i=some n->yK es j=some n->i=j:=fun h1 h2=>t8 he1 h1 h2;have hek:∀ i n,yK es i=some n->i<k:=fun i n h=>bN (he2 _ (uV h)).1.1;have hmkE:∀ i o x,ops[i]?=some o->xR o=some x->yK es i=none:=fun i o x ho hmk=>by
   cases hl:yK es i with
   |none=>rfl| some n =>
    have:=(he2 _ (uV hl)).1.2;simp only[ho,hmk] at this;cases this
  (have hanc:∀ i n j oj x,i<k->yK es i=some n->j<k->ops[j]?=some oj->xR oj=some (n,x)->((anc ops).getD i 0).testBit j=true:=fun i n j oj x _ hi hj hoj hmk=>by have:=(he2 _ (uV hi)).2 j hj;simp only[hoj,hmk,nqb_self,Bool.not_true,Bool.false_or] at this;exact this);obtain⟨pvs,Ob,T2,g1,g2,⟨g3,g4⟩,g5,g6⟩:=zJ1 _ 0 hs;have g6':∀ i o pv,(ops.take k)[i]?=some o->pvs[i]?=some pv->EfStep ops es (yO (ops.take k)) (qB (vP es) ps'.objs) i o (wK ((ops.take k).take i) (pvs.take i) (zB ps'.tmps)) pv (Ob i) (Ob (i+1)):=fun i o pv q1 q2=>by have:=g6 i o pv q1 q2;rw[Nat.zero_add] at this;exact this
  (have hkt:(ops.take k).length=k:=by simp;omega);have hms:=fun x=>pH (k:=k) (ops:=ops) (x:=x)
  (have hndm:((ps'.objs++yO (ops.take k)).map Prod.fst).Nodup:=by rw[List.map_append,List.nodup_append];refine⟨h1.obj.nd,uT hm.1,?_⟩;intro x hx y hy e;subst e;obtain⟨⟨m,o⟩,q1,rfl⟩:=List.mem_map.1 hx;obtain⟨⟨m',o'⟩,q2,e2⟩:=List.mem_map.1 hy;have:=bQ hm.2 q2;simp only[yE,Bool.and_eq_true] at this;exact (yA this.2 q1).1 e2.symm);have hop:∀ i,i<k->∃ o pv,ops[i]?=some o/\(ops.take k)[i]?=some o/\pvs[i]?=some pv:=fun i hi=>by have q1:ops[i]?=some ops[i]:=List.getElem?_eq_getElem (by omega);exact⟨_,_,q1,by rw[List.getElem?_take_of_lt hi];exact q1,List.getElem?_eq_getElem (by rw[g1,hkt];exact hi)⟩
  have hnm:∀ i,i<=k->(Ob i).map Prod.fst=(ps'.objs++yO (ops.take i)).map Prod.fst:=by
   intro i;induction i with
   |zero=>intro _;rw[g2];simp[yO]| succ i ih =>
    (intro hi;obtain⟨o,pv,q1,q2,q3⟩:=hop i (by omega);have ih:=ih (by omega);have e:ops.take (i+1)=ops.take i++[o]:=by rw[List.take_add_one,q1];rfl);rw[e,qT]
    cases g6' i o pv q2 q3 with
    |mk hmk _ hO=>rw[hO,List.map_append,ih];simp[yO,hmk]| eff hmk _ h0 _ _ _ hO=>rw[hO,wU (List.mem_map.2 ⟨_,yW h0,rfl⟩),ih];simp[yO,hmk]| pure hmk _ _ hO=>rw[hO,ih];simp[yO,hmk]
  have hnd:∀ i,i<=k->((Ob i).map Prod.fst).Nodup:=fun i hi=>by
   (rw[hnm i hi];have e:ops.take k=ops.take i++(ops.take k).drop i:=by have:=List.take_append_drop i (ops.take k);rw[List.take_take,Nat.min_eq_left hi] at this;exact this.symm);rw[e,qT,<-List.append_assoc,List.map_append] at hndm;exact (List.nodup_append.1 hndm).1
  obtain⟨X,hXd⟩:∃ X:Nat->Obj',∀ i n x,yK es i=some n->z7 (Ob (i+1)) n=some x->X i=x:=⟨fun i=>((yK es i).bind (z7 (Ob (i+1)))).getD (.box []),fun i n x q1 q2=>by simp[q1,q2]⟩;have hX:∀ i n x,i<k->yK es i=some n->(n,x)∈Ob (i+1)->X i=x:=fun i n x hi q1 q2=>hXd i n x q1 (wH (hnd (i+1) (by omega)) q2);have hXin:∀ i n x0 x,z7 (Ob i) n=some x0->(n,x)∈setO (Ob i) n x:=fun i n x0 x q=>j8 (List.mem_map.2 ⟨_,yW q,rfl⟩);have hOb:∀ i,i<=k->∀ y,y∈Ob i↔EMem ops es k ps'.objs X (fun j=>j<i) y:=by
   intro i;induction i with
   |zero =>
    intro _ y;rw[g2];unfold EMem;constructor;{intro q;exact .inl ⟨.inl q,fun⟨j,_,_,q⟩=>by omega⟩};{rintro (⟨q|⟨j,oj,_,q,_⟩,_⟩|⟨j,_,_,q,_⟩);{exact q};{omega};{omega}}
   |succ i ih =>
    (intro hi y;obtain⟨o,pv,q1,q2,q3⟩:=hop i (by omega);have ih:=ih (by omega);have hL:∀ j,j<i+1↔j<i\/j=i:=fun j=>by omega);cases g6' i o pv q2 q3 with
    | @mk d x hmk _ hO =>
     have hno:∀ j,j<k->yK es j=some d->¬j<i:=fun j hj hje hji=>by
      (have hjo:ops[j]?=some ops[j]:=List.getElem?_eq_getElem (by omega);have hL:∀ a oa,ops[a]?=some oa->a<j->fQ (fun b=>b<j) oa:=fun a oa hoa haj e he hb=>by have:=D.back a oa hoa e he hb;omega);have:i<j:=y8 (L:=fun b=>b<j) hL hjo (fun e he hb=>D.back j _ hjo e he hb) (hanc j d i o x hj hje (by omega) q1 hmk);omega
     rw[hO,List.mem_append,List.mem_singleton,EMem.mk q1 (by omega) hmk (hmkE i o _ q1 hmk) hno hL y,ih y]
    | @eff n x x0 hmk he h0 _ _ _ hO =>
     have hxX:X i=x:=hX i n x (by omega) he (by rw[hO];exact hXin _ _ _ _ h0);obtain⟨y1,y2⟩:=y;rw[hO,pE (hnd i (by omega)) (List.mem_map.2 ⟨_,yW h0,rfl⟩),EMem.eff hinj q1 (by omega) hmk he hL,ih,hxX]
    |pure hmk he _ hO=>rw[hO,EMem.pure q1 hmk he hL y,ih y]
  (rw[hkt] at g4;have hEM0:∀ y,y∈ps'.objs↔EMem ops es k ps'.objs X (Lst (Array.replicate ops.length false)) y:=fun y=>by unfold EMem;constructor;{intro q;exact .inl ⟨.inl q,fun⟨j,_,_,q⟩=>hnone j q⟩};{rintro (⟨q|⟨j,oj,_,q,_⟩,_⟩|⟨j,_,_,q,_⟩);{exact q};{exact absurd q (hnone j)};{exact absurd q (hnone j)}});refine zN6 (T0:=ps'.tmps) (T2:=T2) (O0:=ps'.objs) (O2:=Ob k) (pvs:=pvs) (es:=es) (ms:=yO (ops.take k)) (lim:=qB (vP es) ps'.objs) (X:=X) (Ob:=Ob) D hdst hk hkl (by rw[g1]) g4 g5 (hOb k (Nat.le_refl _)) (hnd k (Nat.le_refl _)) hms ?_ ?_ hinj hmkE hanc (fun i hi=>hOb i (by omega)) g6' hX hXin
   ops.length _ (by simp) (fun j _ _=>hnone j) (fun i o _ hl=>absurd hl (hnone i)) (hunl _) (h1.go (v7 h1.ld.bnd)) hEM0 ⟨fun j o t pv _ hl=>absurd hl (hnone j),fun t _=>rfl⟩
  {intro n x hx;have q1:=bQ hm.2 hx;simp only[yE,Bool.and_eq_true] at q1;exact⟨wG q1.2,xZ q1.1,fun m o q=>yA q1.2 q,fun t ht=>iD ht (t6 g3 hx)⟩};{intro n o q;obtain⟨q1,q2⟩:=zAF _ q;refine⟨yW q2,fun i hi=>?_⟩;rw[dQ (lB (uV hi))] at q1;cases q1}
 ·(obtain⟨S1,β1,h1⟩:=hw.sound h;have D:=jX hd;have hkl:k<=ops.length:=by rcases Nat.lt_or_ge ops.length k with h'|h';{obtain⟨o,ho⟩:=D.full ops.length h';simp at ho};{exact h'});simp only[apOk,Bool.and_eq_true,List.all_eq_true] at he;obtain⟨he1,he2⟩:=he;have hinj:∀ {i j n},yK es i=some n->yK es j=some n->i=j:=fun h1 h2=>t8 he1 h1 h2;have hes:∀ e m,(e,m)∈es->e<k/\m<1000000/\yK es e=some m:=fun e m hm=>by
   obtain⟨⟨q1,q2⟩,q3⟩:=he2 _ hm;refine⟨bN q1,bN q2,?_⟩;cases hl:yK es e with
   |none=>simp only[hl] at q3;cases q3
   |some n=>simp only[hl] at q3;rw[yC q3]
  obtain⟨pvs,Ob,T2,g1,g2,g3,g5,g6⟩:=zJ5 _ 0 hs;have g6':∀ i o pv,(ops.take k)[i]?=some o->pvs[i]?=some pv->ApStep ops es (anc ops) (qB (vP es) ps'.objs) i o (wK ((ops.take k).take i) (pvs.take i) (zB ps'.tmps)) pv (Ob i) (Ob (i+1)):=fun i o pv q1 q2=>by have:=g6 i o pv q1 q2;rw[Nat.zero_add] at this;exact this
  (have hkt:(ops.take k).length=k:=by simp;omega);have hop:∀ i,i<k->∃ o pv,ops[i]?=some o/\(ops.take k)[i]?=some o/\pvs[i]?=some pv:=fun i hi=>by have q1:ops[i]?=some ops[i]:=List.getElem?_eq_getElem (by omega);exact⟨_,_,q1,by rw[List.getElem?_take_of_lt hi];exact q1,List.getElem?_eq_getElem (by rw[g1,hkt];exact hi)⟩
  have hnm:∀ i,i<=k->(Ob i).map Prod.fst=ps'.objs.map Prod.fst:=by
   intro i;induction i with
   |zero=>intro _;rw[g2]| succ i ih =>
    intro hi;obtain⟨o,pv,q1,q2,q3⟩:=hop i (by omega);have ih:=ih (by omega);cases g6' i o pv q2 q3 with
    |app _ _ _ h0 _ _ _ _ _ hO=>rw[hO,wU (List.mem_map.2 ⟨_,yW h0,rfl⟩),ih]| pure _ _ hO=>rw[hO,ih]
  have hnd:∀ i,i<=k->((Ob i).map Prod.fst).Nodup:=fun i hi=>by rw[hnm i hi];exact h1.obj.nd
  
  have hbef:∀ i,i<=k->∀ n,(∀ j,yK es j=some n->i<=j)->z7 (Ob i) n=z7 ps'.objs n:=by
   intro i;induction i with
   |zero=>intro _ n _;rw[g2]| succ i ih =>
    intro hi n hn;obtain⟨o,pv,q1,q2,q3⟩:=hop i (by omega);have ih:=ih (by omega) n (fun j hj=>by have:=hn j hj;omega);cases g6' i o pv q2 q3 with
    | @app m _ _ _ _ _ he' _ _ _ _ _ _ _ _ hO =>
     rw[hO,j3 (fun e=>?_),ih];subst e;have:=hn i he';omega
    |pure _ _ hO=>rw[hO,ih]
  have haft:∀ d i,i+d<=k->∀ n,(∀ j,yK es j=some n->j<i)->z7 (Ob (i+d)) n=z7 (Ob i) n:=by
   intro d;induction d with
   |zero=>intro i _ n _;rfl
   |succ d ih =>
    intro i hi n hn;obtain⟨o,pv,q1,q2,q3⟩:=hop (i+d) (by omega);have ih:=ih i (by omega) n hn;cases g6' (i+d) o pv q2 q3 with
    | @app m _ _ _ _ _ he' _ _ _ _ _ _ _ _ hO =>
     rw[show i+(d+1)=i+d+1 by omega,hO,j3 (fun e=>?_),ih];subst e;have:=hn _ he';omega
    |pure _ _ hO=>rw[show i+(d+1)=i+d+1 by omega,hO,ih]
  have hX:∀ i n x x0,i<k->yK es i=some n->z7 (Ob i) n=some x0->Ob (i+1)=setO (Ob i) n x->(z7 (Ob k) n).getD (.box [])=x:=fun i n x x0 hi he' h0 hO=>by
   (have e1:z7 (Ob (i+1)) n=some x:=by refine wH (hnd _ (by omega)) ?_;rw[hO];exact j8 (List.mem_map.2 ⟨_,yW h0,rfl⟩));have e2:=haft (k-(i+1)) (i+1) (by omega) n (fun j hj=>by have:=hinj hj he';omega);rw[show i+1+(k-(i+1))=k by omega,e1] at e2;rw[e2];rfl
  have hfinO:∀ y,y∈yS (scC (vP es)) (Ob k)↔eU es ps'.objs (fun n=>(z7 (Ob k) n).getD (.box [])) (fun j=>decide (j<k)) y:=fun y=>by
   (have hPS:∀ m,zY m (PL (fun j=>decide (j<k)) es)=zY m (vP es):=fun m=>by rw[Bool.eq_iff_iff,kI,kI,kZ,bB];exact⟨fun⟨e,h1,_⟩=>⟨e,h1⟩,fun⟨e,h1⟩=>⟨e,h1,by simpa using (hes e m h1).1⟩⟩);rw[j9];unfold eU;rw[hPS,zD0 hPS];have hname:∀ n,(∃ o,(n,o)∈Ob k)↔∃ o,(n,o)∈ps'.objs:=fun n=>by
    (have e:∀ l:List (Nat×Obj'),(∃ o,(n,o)∈l)↔n∈l.map Prod.fst:=fun l=>by rw[List.mem_map];exact⟨fun⟨o,h⟩=>⟨_,h,rfl⟩,fun⟨⟨a,b⟩,h,e⟩=>⟨b,by simp only at e;rw[<-e];exact h⟩⟩);rw[e,e,hnm k (Nat.le_refl _)]
   cases hy:zY y.1 (vP es) with
   |true =>
    constructor;{rintro⟨o,q1,q2⟩;obtain⟨o',q3⟩:=(hname _).1 ⟨o,q1⟩;refine⟨o',q3,?_⟩;show y.2=scO (vP es) ((z7 (Ob k) y.1).getD (.box []));rw[wH (hnd k (Nat.le_refl _)) q1];exact q2};{rintro⟨o,q1,q2⟩;obtain⟨o',q3⟩:=(hname _).2 ⟨o,q1⟩;refine⟨o',q3,?_⟩;have q2':y.2=scO (vP es) ((z7 (Ob k) y.1).getD (.box [])):=q2;rw[wH (hnd k (Nat.le_refl _)) q3] at q2';exact q2'}
   |false =>
    (have hnn:∀ j,yK es j=some y.1->k<=j:=fun j hj=>by have:=dQ (bB.2 ⟨j,uV hj⟩);rw[this] at hy;cases hy);have hg:=hbef k (Nat.le_refl _) y.1 hnn;constructor
    {rintro⟨o,q1,q2⟩;rw[wH (hnd k (Nat.le_refl _)) q1] at hg;exact⟨o,yW hg.symm,q2⟩};{rintro⟨o,q1,q2⟩;rw[wH h1.obj.nd q1] at hg;exact⟨o,yW hg,q2⟩}
  have hP0:PL (fun i=>(Array.replicate ops.length false).getD i false) es=[]:=by
   (have:∀ m,m∉PL (fun i=>(Array.replicate ops.length false).getD i false) es:=fun m hm=>by obtain⟨e,_,q⟩:=kZ.1 hm;exact hnone e q);exact List.eq_nil_iff_forall_not_mem.2 this
  rw[hkt] at g3;refine zN5 (T0:=ps'.tmps) (T2:=T2) (O0:=ps'.objs) (O2:=yS (scC (vP es)) (Ob k)) (pvs:=pvs) (es:=es) (X:=fun n=>(z7 (Ob k) n).getD (.box [])) (Ob:=Ob) D hdst hk hkl (by rw[g1]) g3 g5 hfinO (by rw[kB];exact hnd k (Nat.le_refl _)) hes hinj g6'
   (fun i n x0 hi he' h0=>by rw[hbef i (by omega) n (fun j hj=>by have:=hinj hj he';omega)] at h0;exact yW h0) hX h1.obj.nd
   ops.length (Array.replicate ops.length false) (G:=ps'.tmps) (objs':=yS (scC []) ps'.objs) (S:=S1) (β:=β1) (by simp) (fun j _ _=>hnone j) (fun i o _ hl=>absurd hl (hnone i)) (hunl _) ?_ ?_ ⟨fun j o t pv _ hl=>absurd hl (hnone j),fun t _=>rfl⟩
  {refine ((h1.go (v7 h1.ld.bnd))).weak (fun t v hr=>?_) (by rw[kB];exact h1.obj.nd) fun n o' hm=>?_;{rw[hP0,vR];exact aF hr};{obtain⟨o1,q1,q2⟩:=(j9 _).1 hm;simp only at q1 q2;exact⟨o1,q1,fun h=>by rw[q2];exact zJJ h,fun i h=>by rw[q2];exact zFI h,fun b hb=>by rw[q2] at hb;exact wI hb⟩}};{intro y;rw[j9];unfold eU;rw[hP0];rfl}
 ·obtain⟨S1,β1,h1⟩:=hw.sound h;have:=zBJ hsel hdst ops.length _ ps' hs (h1.go (v7 h1.ld.bnd));rw[List.toArray_replicate] at this;refine mL (fun e a w q=>?_) _ _ _ _ this;cases e with
  |normal=>obtain⟨ps2,S2,β2,⟨s,q0,q1⟩,q2⟩:=q;obtain⟨S3,β3,q3⟩:=q1.sound q2;exact hk _ _ _ _ _ (hks s q0) q3
  |_=>exact q.elim
end
end Go.Proofs.YtfainocfaddbdaaGreat
