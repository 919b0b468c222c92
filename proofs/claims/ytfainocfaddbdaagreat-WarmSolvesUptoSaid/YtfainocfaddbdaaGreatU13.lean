/- A part of the proof: PmP. -/
import Derived.Test.YtfainocfaddbdaaGreatU12
set_option linter.all false
namespace Go.Proofs.YtfainocfaddbdaaGreat
open Go
def a5 (L:Nat->Prop) (o:Oper):Prop:=∀ e,e∈o.after.toList->Region.binds .any e=true->L e.on
theorem zL9 {acc:List Nat}{o:Oper}{j:Nat}(h:(iH acc o).testBit j=true):∃ e,e∈o.after.toList/\Region.binds .any e=true/\(e.on=j\/(acc.getD e.on 0).testBit j=true):=by
 unfold iH at h;have gen:∀ (l:List Edge) (s:Nat),(l.foldl (fun s e=>if Region.binds .any e then s ||| (2^e.on ||| acc.getD e.on 0) else s) s).testBit j=true->s.testBit j=true\/∃ e,e∈l/\Region.binds .any e=true/\(e.on=j\/(acc.getD e.on 0).testBit j=true):=by
  intro l;induction l with
  |nil=>intro s h;exact .inl h| cons e l ih =>
   intro s h;simp only[zXE] at h;rcases ih _ h with h1|⟨e',h1,h2⟩;{by_cases hb:Region.binds .any e=true;{rw[if_pos hb,Nat.testBit_or,Nat.testBit_or] at h1;simp only[alT1] at h1;rcases h1 with h1|h1|h1;{exact .inl h1};{exact .inr ⟨e,xD,hb,.inl (by simpa[Nat.testBit_two_pow] using h1)⟩};{exact .inr ⟨e,xD,hb,.inr h1⟩}};{rw[if_neg hb] at h1;exact .inl h1}};{exact .inr ⟨e',xI _ h1,h2⟩}
 rcases gen _ _ h with h1|h1;{simp at h1};{exact h1}
theorem zTZ {L:Nat->Prop}{ops:List Oper}(hL:∀ i o,ops[i]?=some o->L i->a5 L o):∀ (r done:List Oper) (acc:List Nat),ops=done++r->acc.length=done.length ->(∀ i o j,i<acc.length->ops[i]?=some o->a5 L o->(acc.getD i 0).testBit j=true->L j) ->∀ i o j,ops[i]?=some o->a5 L o->((zUJ r acc).getD i 0).testBit j=true->L j
 |[],done,acc,he,hl,h,i,o,j,hi,hE,hb=>by refine h i o j ?_ hi hE hb;rw[hl];simp only[kC] at he;subst he;exact (v4.1 hi).1| x::r,done,acc,he,hl,h,i,o,j,hi,hE,hb=>by
  refine zTZ hL r (done++[x]) (acc++[iH acc x]) (by simp[he]) (by simp[hl]) ?_ i o j hi hE hb;intro i o j hlt hi hE hb;by_cases h1:i<acc.length
  ·(have:(acc++[iH acc x]).getD i 0=acc.getD i 0:=by simp only[yC];rw[uD h1]);rw[this] at hb
   exact h i o j h1 hi hE hb
  ·(have h2:i=acc.length:=by simp at hlt;omega);subst h2
   (have:(acc++[iH acc x]).getD acc.length 0=iH acc x:=by simp);rw[this] at hb
   (have hx:ops[acc.length]?=some x:=by rw[he,hl];simp);rw[hx] at hi
   (cases hi;obtain⟨e,h3,h4,h5⟩:=zL9 hb;have hLe:=hE e h3 h4;rcases h5 with h5|h5);{exact h5 ▸ hLe}
   ·by_cases h6:e.on<acc.length
    ·(have hlo:e.on<ops.length:=by rw[he];simp;omega);have ho:ops[e.on]?=some ops[e.on]:=wN hlo
     exact h e.on _ j h6 ho (hL e.on _ ho hLe) h5
    ·(have:acc.getD e.on 0=0:=by simp only[yC];rw[jT oM];rfl);rw[this] at h5
     simp at h5
theorem xY {L:Nat->Prop}{ops:List Oper}(hL:∀ i o,ops[i]?=some o->L i->a5 L o){i j:Nat}{o:Oper}(hi:ops[i]?=some o)(hE:a5 L o)(hb:((anc ops).getD i 0).testBit j=true):L j :=
 zTZ hL ops [] [] rfl rfl (fun i o j h=>by simp at h) i o j hi hE hb
def unl (L:Array Bool):Nat->Nat
 |0=>0| n+1=>unl L n+(if L.getD n true=true then 0 else 1)
theorem zBZ {L:Array Bool}{i:Nat}:∀ {n:Nat},n<=i->unl (L.setIfInBounds i true) n=unl L n
 |0,_=>rfl| n+1,h=>by simp only[unl];rw[zBZ oM,getD_set_ne true oM]
theorem iW {L:Array Bool}{i:Nat}(hi:L.getD i true=false):∀ {n:Nat},i<n->unl (L.setIfInBounds i true) n+1=unl L n
 |0,h=>by omega| n+1,h=>by
  simp only[unl];by_cases e:i=n
  ·subst e;have hs:i<L.size:=by rcases wE i L.size with h'|h';{exact h'};{simp[zMP h'] at hi}
   (rw[zBZ (zV _),hi];have:(L.setIfInBounds i true).getD i true=true:=by simp[hs]);rw[this]
   simp
  {have:=iW hi (n:=n) oM;rw[getD_set_ne true e];omega}
theorem tK {L:Array Bool}:∀ {n:Nat},unl L n=0->∀ i,i<n->L.getD i true=true
 |0,_,i,h=>by omega| n+1,h0,i,h=>by simp only[unl] at h0;by_cases e:i=n;{subst e;by_cases ht:L.getD i true=true;{exact ht};{rw[if_neg ht] at h0;omega}};{exact tK (n:=n) oM i oM}
theorem xM {L:Array Bool}{i:Nat}(hi:i<L.size)(d e:Bool):L.getD i d=L.getD i e:=by simp[hi]
section
variable {w0:World} {S0:Nat->Nat->Prop} {K0:Nat->Prop} {N:Cx}
structure DrawOk (ops:List Oper) (k:Nat):Prop where
 dst:fD (ops.take k)=true
 look:∀ i o t j oj,i<k->j<k->ops[i]?=some o->ops[j]?=some oj->t∈jI ops o->oj.dst=some t->(j<i/\((anc ops).getD i 0).testBit j=true)\/(i<j/\((anc ops).getD j 0).testBit i=true)
 full:∀ i,i<k->∃ o,ops[i]?=some o
 back:∀ i o,ops[i]?=some o->∀ e,e∈o.after.toList->Region.binds .any e=true->e.on<i
 rest:∀ i j,i<ops.length->k<=i->j<i->((anc ops).getD i 0).testBit j=true
theorem cK {ops:List Oper}{k:Nat}(h:j9 ops k=true):DrawOk ops k:=by
 simp only[j9,y9,f8,wZ] at h;obtain⟨⟨⟨h1,h2⟩,h3⟩,h4⟩:=h;refine⟨h1,?_,?_,?_,?_⟩;{intro i o t j oj hi hj ho hoj ht hd;have:=h2 i hi;simp only[ho,f8,wZ] at this;have:=this t ht j hj;simp only[hoj,hd,BEq.rfl,Bool.not_true,zLA,alT1,y9,decide_eq_true_eq] at this;exact this}
 ·intro i hi;have:=h2 i hi;cases ho:ops[i]? with
  |none=>simp[ho] at this| some o=>exact⟨o,rfl⟩
 {intro i o ho e he hb;have hlt:=(v4.1 ho).1;have:=h3 i hlt;simp only[ho,f8] at this;have:=this e he;simp only[hb,Bool.not_true,zLA,decide_eq_true_eq] at this;exact this};{intro i j hi hk hj;have:=h4 i hi;simp only[alT1,decide_eq_true_eq,f8,wZ] at this;rcases this with h5|h5;{omega};{exact h5 j hj}}
structure At (ops:List Oper) (k:Nat) (pvs:List PV) (τ0:Nat->PV) (L:Nat->Prop) (τ:Nat->PV):Prop where
 hit:∀ j o t pv,j<k->L j->ops[j]?=some o->pvs[j]?=some pv->o.dst=some t->τ t=pv
 miss:∀ t,(∀ j o,j<k->L j->ops[j]?=some o->o.dst≠some t)->τ t=τ0 t
theorem At.step {ops:List Oper}{k:Nat}{pvs:List PV}{τ0:Nat->PV}{L L':Nat->Prop}{τ:Nat->PV}(D:DrawOk ops k)(h:At ops k pvs τ0 L τ){i:Nat}{o:Oper}{pv:PV}(hi:i<k)(ho:ops[i]?=some o)(hp:pvs[i]?=some pv) (hL':∀ j,L' j↔L j\/j=i):At ops k pvs τ0 L' (upd τ o.dst pv):=by
 have hne:∀ j oj t,j<k->ops[j]?=some oj->oj.dst=some t->o.dst=some t->j=i:=fun j oj t hj hoj hd hd' =>
  bR D.dst (by rw[wG hj];exact hoj) (by rw[wG hi];exact ho) hd hd'
 refine⟨fun j oj t pv' hj hLj hoj hpj hd=>?_,fun t ht=>?_⟩
 ·by_cases hji:j=i;{subst hji;rw[ho] at hoj;cases hoj;rw[hp] at hpj;cases hpj;simp[upd,hd]}
  ·have hLj':=((hL' j).1 hLj).resolve_right hji;rw[<-h.hit j oj t pv' hj hLj' hoj hpj hd];cases hd':o.dst with
   |none=>rfl| some d =>
    have:t≠d:=fun e=>hji (hne j oj t hj hoj hd (by rw[hd',e]));simp[upd,this]
 ·have h1:τ t=τ0 t:=h.miss t fun j oj hj hLj hoj=>ht j oj hj ((hL' j).2 (.inl hLj)) hoj;rw[<-h1];cases hd':o.dst with
  |none=>rfl| some d =>
   have:t≠d:=fun e=>ht i o hi ((hL' i).2 (.inr rfl)) ho (by rw[hd',e]);simp[upd,this]
theorem At.text {ops:List Oper}{k:Nat}{pvs:List PV}{τ0:Nat->PV}(D:DrawOk ops k)(hl:pvs.length=(ops.take k).length)(i:Nat)(hi:i<=k):At ops k pvs τ0 (fun j=>j<i) (v8 ((ops.take k).take i) (pvs.take i) τ0):=by
 have htt:(ops.take k).take i=ops.take i:=by rw[tE,tD hi]
 have hdo:fD (ops.take i)=true:=by rw[<-htt];exact zA7 i D.dst
 refine⟨fun j o t pv hj hLj ho hp hd=>?_,fun t ht=>?_⟩;{rw[htt];exact zI5 hdo (by rw[wG hLj];exact ho) (by rw[wG hLj];exact hp) hd}
 ·(rw[htt];refine zFM fun j o ho=>?_;have hlt:j<i:=by have:=(v4.1 ho).1;simp at this;omega);rw[wG hlt] at ho;exact ht j o oM hlt ho
theorem At.same {ops:List Oper}{k:Nat}{pvs:List PV}{τ0:Nat->PV}{L L':Nat->Prop}{τ τ':Nat->PV}(D:DrawOk ops k)(hlen:k<=pvs.length)(h:At ops k pvs τ0 L τ)(h':At ops k pvs τ0 L' τ'){t:Nat}(ht:∀ j o,j<k->ops[j]?=some o->o.dst=some t->(L j/\L' j)\/(¬L j/\¬L' j)):τ t=τ' t:=by
 by_cases hx:∃ j o,j<k/\ops[j]?=some o/\o.dst=some t
 ·obtain⟨j,o,hj,ho,hd⟩:=hx;rcases ht j o hj ho hd with⟨h1,h2⟩|⟨h1,h2⟩;{have hp:pvs[j]?=some pvs[j]:=wN oM;rw[h.hit j o t _ hj h1 ho hp hd,h'.hit j o t _ hj h2 ho hp hd]}
  ·have key:∀ j' o',j'<k->ops[j']?=some o'->o'.dst=some t->j'=j:=fun j' o' hj' ho' hd' =>
    bR D.dst (by rw[wG hj'];exact ho') (by rw[wG hj];exact ho) hd' hd
   rw[h.miss t fun j' o' hj' hL ho' hd'=>h1 (key j' o' hj' ho' hd' ▸ hL),h'.miss t fun j' o' hj' hL ho' hd'=>h2 (key j' o' hj' ho' hd' ▸ hL)]
 {rw[h.miss t fun j o hj _ ho hd=>hx ⟨j,o,hj,ho,hd⟩,h'.miss t fun j o hj _ ho hd=>hx ⟨j,o,hj,ho,hd⟩]}
section
variable {a:Act} {w:World} {S:Nat->Nat->Prop} {β:Bm}
theorem Sim.newObjG {τ:Nat->PV}{objs:List (Nat×Obj')}{w':World}(h:Sim w0 S0 K0 N τ objs a w S β){n b:Nat}{o:Obj'}(hn:n<1000000)(hT:∀ t,xV n (τ t)=true)(hO:∀ {m x},(m,x)∈objs->m≠n/\f6 n x)(l:Leads w S u9 w' S)(hb:w.heap.size<=b)(hb':b<w'.heap.size) (hat:ObjAt w' S (qF β n (some b)) n o) (hr:∀ i,¬vP o i:=by intro _ hi;exact hi):Sim w0 S0 K0 N τ (objs++[(n,o)]) a w' S (qF β n (some b)):=by
 have hmem:∀ {m x},(m,x)∈objs++[(n,o)]->((m,x)∈objs/\m≠n)\/(m=n/\x=o):=by intro m x hm;simp only[wQ,kE] at hm;rcases hm with hm|hm;{exact .inl ⟨hm,(hO hm).1⟩};{cases hm;exact .inr ⟨rfl,rfl⟩}
 have hg:=h.go l;refine⟨h.dfr,h.sz,hg.ld,fun t=>(hg.tmp t).upd (hT t),⟨?_,?_,?_,?_⟩,?_,?_⟩;{rw[gL,sJ];refine⟨h.obj.nd,by simp,?_⟩;intro x hx y hy e;simp at hy;subst hy e;obtain⟨⟨m,o⟩,h1,rfl⟩:=yS.1 hx;exact (hO h1).1 rfl};{intro m x hm;rcases hmem hm with⟨h1,h2⟩|⟨rfl,rfl⟩;{exact (hg.obj.at_ m x h1).upd h2 (hO h1).2};{exact hat}};{intro m x c hm hβ;rcases hmem hm with⟨h1,h2⟩|⟨rfl,rfl⟩;{exact hg.obj.un m x c h1 (vE h2 hβ)};{have hβ:=y7 hr hβ;rw[yQ] at hβ;cases hβ;exact⟨fun i hS=>by have:=h.ld.bnd b i hS;omega,hb'⟩}};{intro m x m' x' c hm hm' hβ hβ';rcases hmem hm with⟨h1,h2⟩|⟨rfl,rfl⟩;{rcases hmem hm' with⟨h3,h4⟩|⟨rfl,rfl⟩;{exact hg.obj.inj _ _ _ _ c h1 h3 (vE h2 hβ) (vE h4 hβ')};{have hβ':=y7 hr hβ';rw[yQ] at hβ';cases hβ';have:=(h.obj.un m x b h1 (vE h2 hβ)).2;omega}};{rcases hmem hm' with⟨h3,h4⟩|⟨rfl,rfl⟩;{have hβ:=y7 hr hβ;rw[yQ] at hβ;cases hβ;have:=(h.obj.un m' x' b h3 (vE h4 hβ')).2;omega};{rfl}}};{intro m x c hm hβ;rcases hmem hm with⟨h1,h2⟩|⟨rfl,rfl⟩;{exact h.own m x c h1 (vE h2 hβ)};{have hβ:=y7 hr hβ;rw[yQ] at hβ;cases hβ;have:=h.ld.size;exact .inl oM}};{intro m x hm hb2;rcases hmem hm with⟨h1,h2⟩|⟨rfl,rfl⟩;{rw[w8 h2];exact h.keep m x h1 hb2};{omega}}
theorem oV {d:Nat}{t:TypeId}(hno:(ty t).isNo=false):w6 d (ty t).zero=true:=by
 cases hty:ty t with
 |no=>simp[hty,Ty.isNo] at hno| sc z=>obtain⟨_,_,zv',_,_,_,_,_,_,h7,_⟩:=zK1 hty;rw[h7];simp only[Ty.zero,w6,yV,zMN];unfold vN;split <;> rfl
 |st n fs z =>
  obtain⟨_,_,zs,_,_,_,_,_,_,h7,_⟩:=zGU hty;rw[h7];simp only[Ty.zero];generalize zs.toList=l;induction l with
  |nil=>rfl| cons x l ih=>simp only[uC,w6,yV,y9];exact⟨by unfold vN;split <;> rfl,ih⟩
 |arr len n ag z =>
  obtain⟨_,_,zs,_,_,_,_,_,_,_,_,_,_,h7⟩:=lK hty;rw[h7];simp only[Ty.zero];generalize zs.toList=l;induction l with
  |nil=>rfl| cons x l ih=>simp only[uC,w6,yV,y9];exact⟨by unfold vN;split <;> rfl,ih⟩
 |sli n b z=>rfl
theorem zW5 {o:Oper}{d:Nat}{x:Obj'}{τ:Nat->PV}{objs:List (Nat×Obj')}{Km:Act->World->Prop}{Q:Exit->Act->World->Prop}(hm:wY o=some (d,x))(hd:rX N o=true)(h:Sim w0 S0 K0 N τ objs a w S β) (hn:d<1000000) (hT:∀ t,xV d (τ t)=true) (hO:∀ {m y},(m,y)∈objs->m≠d/\f6 d y) (hk:∀ a' w' β',Sim w0 S0 K0 N (upd τ o.dst (.ptr d 0)) (objs++[(d,x)]) a' w' S β'->Km a' w'):o.wp Pg a w Km Q:=by
 obtain⟨hg,hod,t,hop,hno,rfl⟩:=jH hm;obtain⟨i,zv,h1,h2,h3⟩:=zNJ (w:=w) (S:=S) (β:=β) hno;have hz:w6 d (ty t).zero=true:=oV hno;have l:=uY (w:=w) h.ld.bnd (.cells zv.cells t);have hnw:=h.newObjG (w':=w.alloc (.cells zv.cells t)) (b:=w.heap.size) (o:=.box (ty t).zero) hn hT hO l (zV _) (by simp) ⟨w.heap.size,zv.cells,t,yQ,heap_alloc_new w _,h3.1,fun j hj =>
  ((h3.2 j hj).evo (l.evo h.ld.bnd) (l.subs h.ld.bnd)).upd (xU rfl hz j)⟩
 refine jC (v:=.pointer (some ⟨w.heap.size,0,none⟩)) (w':=w.alloc (.cells zv.cells t)) ?_ ?_;{simp[execOp,hop,Instr.alloc,tQ h1 h2,newVar,newRow]};{exact hk _ _ _ (hnw.put o.dst (aP hd) (.ptr yQ))}
theorem Sim.perm {τ:Nat->PV}{objs objs':List (Nat×Obj')}(h:Sim w0 S0 K0 N τ objs a w S β)(hm:∀ x,x∈objs'↔x∈objs)(hnd:(objs'.map Prod.fst).Nodup):Sim w0 S0 K0 N τ objs' a w S β :=
 ⟨h.dfr,h.sz,h.ld,h.tmp,⟨hnd,fun n o hx=>h.obj.at_ n o ((hm _).1 hx),fun n o b hx=>h.obj.un n o b ((hm _).1 hx),fun n o m o' b hx hy=>h.obj.inj n o m o' b ((hm _).1 hx) ((hm _).1 hy)⟩,
  fun n o b hx=>h.own n o b ((hm _).1 hx),fun n o hx=>h.keep n o ((hm _).1 hx)⟩
theorem vY:∀ {l:List (Nat×Obj')} {n:Nat} {o:Obj'},(l.map Prod.fst).Nodup->(n,o)∈l->yA l n=some o
 |[],n,o,_,h=>by simp at h| (u,v)::r,n,o,hnd,h=>by simp only[uC,tF] at hnd;simp only[z9] at h;unfold yA;rcases h with h|h;{cases h;simp};{have:u≠n:=fun e=>hnd.1 (by rw[e];exact yS.2 ⟨_,h,rfl⟩);rw[nbeq this];exact vY hnd.2 h}
end
theorem lO {o:Oper}{τ:Nat->PV}{objs:List (Nat×Obj')}{a:Act}{w:World}{S:Nat->Nat->Prop}{β:Bm}{K:PV->Prop}{Km:Act->World->Prop}{Q:Exit->Act->World->Prop}(h:Sim w0 S0 K0 N τ objs a w S β)(hs:jA false objs o.op (ev τ) K) (hk:∀ pv w' S' v,K pv->Leads w S u9 w' S'->Rep w' S' β v pv->Km (a.put o.dst v) w'):o.wp Pg a w Km Q:=by
 unfold jA at hs;cases hi:lG o.op with
 |false=>rw[hi] at hs;exact oW h hs hk| true =>
  rw[hi] at hs;obtain⟨c',hc1,hc2⟩:=zJX hi;obtain⟨c,b,x,t,tx,n,bb,z,hop,h1,h2,h3,h4,h5,h6⟩:=zH0 hs;rw[hc1] at hop;cases hop;exact zGT hc1 hc2 h1 h2 h3 h h4 h5 h6 hk
theorem zAW {nb:Bool}{o:Oper}{τ:Nat->PV}{objs:List (Nat×Obj')}{a:Act}{w:World}{S:Nat->Nat->Prop}{β:Bm}{K:PV->Prop}{Km:Act->World->Prop}{Q:Exit->Act->World->Prop}(h:Sim w0 S0 K0 N τ objs a w S β)(hs:jA nb objs o.op (ev τ) K) (hk:∀ pv w' S' β' v,K pv->Sim w0 S0 K0 N τ objs a w' S' β'->Rep w' S' β' v pv->Km (a.put o.dst v) w'):o.wp Pg a w Km Q:=by
 have fin:jA false objs o.op (ev τ) K->o.wp Pg a w Km Q:=fun hs=>lO h hs fun pv w' S' v hK l hr=>hk pv w' S' β v hK (h.go l) hr;cases nb with
 |false=>exact fin hs| true =>
  cases hi:lG o.op with
  |true=>exact fin (by unfold jA at hs ⊢;rw[hi] at hs ⊢;exact hs)| false =>
   (have hs':lN objs o.op (ev τ) K:=by unfold jA at hs;rw[hi] at hs;exact hs);rcases mZ hs' with⟨h1,h2⟩|⟨c,f,g,caps,h1,h2,h3,h4,h5⟩
   {exact fin (by unfold jA;rw[hi];exact h2)};{rcases h5.h with⟨args',r,q1,q2,q3,q4⟩|⟨_,hn,cargs,kept,r,q1,q2,q3,q4,q5,q6,q7,q8,q9,q10⟩;{exact mJ h1 h2 h h4 ⟨args',r,q1,q2,q3,q4⟩ fun pv w' S' v hK l hr=>hk pv w' S' β v hK (h.go l) hr};{exact zIG h1 h2 h h4 q1 q2 q3 q4 q5 q6 q7 q8 q9 fun w' S' β' v hsim hr=>hk _ w' S' β' v q10 hsim hr}}
theorem d8 {ops:List Oper}{Q:Exit->Act->World->Prop}{i:Nat}{o:Oper}{a:Act}{w:World}{Km:Act->World->Prop}(ho:ops[i]?=some o) (h:(Region.wanted o (yielded ops.toArray a.tmps)=true/\o.wp Pg a w Km Q)\/(Region.wanted o (yielded ops.toArray a.tmps)=false/\Km (a.put o.dst undef) w)):wpOp Pg ops.toArray Q i Km a w:=by
 unfold wpOp;have:ops.toArray[i]?=some o:=by simpa using ho
 rw[this];rcases h with⟨hw,h⟩|⟨hw,h⟩;{simp only[hw,if_true];exact .inl h};{simp only[hw];exact h}
def Lst (L:Array Bool) (j:Nat):Prop:=L.getD j false=true
theorem vA {L:Array Bool}{i:Nat}(hi:i<L.size)(j:Nat):Lst (L.setIfInBounds i true) j↔Lst L j\/j=i:=by unfold Lst;by_cases e:j=i;{subst e;simp[hi]};{rw[getD_set_ne false (Ne.symm e)];simp[e]}
theorem zES {ops:List Oper}{k:Nat}(D:DrawOk ops k){Q:Exit->Act->World->Prop}{K:PS->Prop}(hdst:∀ o,o∈ops->rX N o=true)(hk:∀ ps' a' w' S' β',K ps'->Sim w0 S0 K0 N (zA ps'.tmps) ps'.objs a' w' S' β'->Q .normal a' w'):∀ (fuel m:Nat) (L:Array Bool) {ps:PS} {a:Act} {w:World} {S:Nat->Nat->Prop} {β:Bm},k<=m->m<=ops.length->L.size=ops.length->(∀ j,j<ops.length->(Lst L j↔j<m))->ops.length<=m+fuel ->Sim w0 S0 K0 N (zA ps.tmps) ps.objs a w S β->qY ops (ops.drop m) ps K->wpAny Pg .any ops.toArray Q fuel L a w:=by
 intro fuel;induction fuel with
 |zero =>
  (intro m L ps a w S β hkm hm hsz hL hf h hs;have hme:m=ops.length:=by omega);have hr:Region.ready .any ops.toArray L=[]:=by
   (rw[List.eq_nil_iff_forall_not_mem];intro i hi;obtain⟨h1,o,h2,_⟩:=mem_ready.1 hi;have hlt:i<ops.length:=by simpa using (zQV.1 h2).1);have:=(hL i hlt).2 oM
   unfold Lst at this;rw[xM oM true false,this] at h1;cases h1
  refine⟨hr,?_⟩;rw[hme,vG] at hs;exact hk _ _ _ _ _ hs h
 |succ fuel ih =>
  (intro m L ps a w S β hkm hm hsz hL hf h hs;have closed:∀ i o,ops[i]?=some o->Lst L i->a5 (Lst L) o:=by intro i o ho hi e he hb;have hlt:=(v4.1 ho).1;have h1:=D.back i o ho e he hb;have h2:=(hL i hlt).1 hi;exact (hL e.on oM).2 oM);refine⟨fun hr=>?_,fun i hi=>?_⟩
  ·by_cases hme:m=ops.length;{rw[hme,vG] at hs;exact hk _ _ _ _ _ hs h}
   ·(exfalso;have hlt:m<ops.length:=by omega);have hin:m∈Region.ready .any ops.toArray L:=by
     refine mem_ready.2 ⟨?_,ops[m],by simp[hlt],fun e he hb=>?_⟩
     ·rw[xM oM true false];cases hx:L.getD m false with
      |false=>rfl| true=>have:=(hL m hlt).1 hx;omega
     {have h1:=D.back m _ (wN hlt) e (by simpa using he) hb;exact (hL e.on oM).2 h1}
    rw[hr] at hin;cases hin
  ·(obtain⟨h1,o,h2,h3⟩:=mem_ready.1 hi;have ho:ops[i]?=some o:=by simpa using h2);have hlt:i<ops.length:=(v4.1 ho).1
   (have him:m<=i:=by rcases wE i m with h'|h';{have:=(hL i hlt).2 h';unfold Lst at this;rw[xM oM true false,this] at h1;cases h1};{exact h'});have hie:i=m:=by rcases wE m i with h'|h';{have hb:=D.rest i m hlt oM h';have:=xY closed ho (fun e he hb=>h3 e (by simpa using he) hb) hb;have:=(hL m oM).1 this;omega};{omega}
   (subst hie;have hdrop:ops.drop i=o::ops.drop (i+1):=by rw[c7 hlt];congr 1;have:=wN hlt;rw[this] at ho;exact vC ho);rw[hdrop] at hs;simp only[qY] at hs;have hL2:∀ j,j<ops.length->(Lst (L.setIfInBounds i true) j↔j<i+1):=by intro j hj;rw[vA oM,hL j hj];omega
   have hdo:=aP (hdst o (zZ ho));refine d8 ho ?_;rcases j2 h.tmp hs with⟨hw,hA⟩|⟨hw,hB⟩;{exact .inl ⟨hw,dV h hA hdo fun ps' a' w' S' β' hK hsim=>by obtain⟨ps'',hK',hsim'⟩:=zAZ hsim hK;exact ih (i+1) _ oM oM (by simpa using hsz) hL2 oM hsim' hK'⟩};{exact .inr ⟨hw,ih (i+1) _ oM oM (by simpa using hsz) hL2 oM (vK h o.dst hdo (nA _ _ _)) hB⟩}
theorem zXB {ops:List Oper}{k:Nat}(D:DrawOk ops k){Q:Exit->Act->World->Prop}{K:PS->Prop}(hdst:∀ o,o∈ops->rX N o=true)(hk:∀ ps' a' w' S' β',K ps'->Sim w0 S0 K0 N (zA ps'.tmps) ps'.objs a' w' S' β'->Q .normal a' w') {ps ps2:PS} {pvs:List PV} {ms:List (Nat×Obj')} (hkl:k<=ops.length) (hlen:pvs.length=(ops.take k).length) (hK:qY ops (ops.drop k) ⟨ps2.tmps,ps.objs++ms⟩ K) (hms:∀ x,x∈ms↔∃ i o,i<k/\ops[i]?=some o/\wY o=some x) (hndm:((ps.objs++ms).map Prod.fst).Nodup) (hfr:∀ n x,(n,x)∈ms->n<1000000/\(∀ t,xV n (zA ps.tmps t)=true)/\(∀ m o,(m,o)∈ps.objs->m≠n/\f6 n o)/\(∀ t,t≠n->xV n (zA ps2.tmps t)=true)) (ht2:zA ps2.tmps=v8 (ops.take k) pvs (zA ps.tmps)) (hst:∀ i o pv,(ops.take k)[i]?=some o->pvs[i]?=some pv->tM true ps.objs ops o (v8 ((ops.take k).take i) (pvs.take i) (zA ps.tmps)) pv):∀ (fuel:Nat) (L:Array Bool) {a:Act} {w:World} {S:Nat->Nat->Prop} {β:Bm} {τ:Nat->PV} {objs':List (Nat×Obj')},L.size=ops.length->(∀ j,j<ops.length->k<=j->¬Lst L j)->(∀ i o,ops[i]?=some o->Lst L i->a5 (Lst L) o)->unl L ops.length<=fuel ->Sim w0 S0 K0 N τ objs' a w S β->(∀ x,x∈objs'↔x∈ps.objs\/∃ i o,i<k/\Lst L i/\ops[i]?=some o/\wY o=some x)->At ops k pvs (zA ps.tmps) (Lst L) τ->wpAny Pg .any ops.toArray Q fuel L a w:=by
 have hpl:k<=pvs.length:=by rw[hlen];simp;omega
 intro fuel;induction fuel with
 |zero =>
  intro L a w S β τ objs' hsz hge hcl hun h hin hat;have hall:=tK (Nat.le_zero.1 hun);have hkn:ops.length<=k:=by rcases wE k ops.length with h'|h';{have h1:=hall k h';rw[xM oM true false] at h1;exact absurd h1 (hge k h' (zV _))};{exact h'}
  (have hk':k=ops.length:=by omega);refine zES D hdst hk 0 k L (ps:=⟨ps2.tmps,ps.objs++ms⟩) (S:=S) (β:=β) (zV _) hkl hsz (fun j hj=>⟨fun _=>by omega,fun _=>?_⟩) oM ?_ hK
  {have h1:=hall j hj;rw[xM oM true false] at h1;exact h1}
  ·have:τ=zA ps2.tmps:=by
    (funext t;rw[ht2];have htx:=At.text (τ0:=zA ps.tmps) D hlen k (zV _);have e1:(ops.take k).take k=ops.take k:=by rw[tE,zK9]);have e2:pvs.take k=pvs:=yN (by rw[hlen];simp;omega)
    rw[e1,e2] at htx;exact hat.same D hpl htx fun j o hj ho hd=>.inl ⟨by have h1:=hall j oM;rw[xM oM true false] at h1;exact h1,hj⟩
   show Sim w0 S0 K0 N (zA ps2.tmps) (ps.objs++ms) a w S β;rw[<-this];refine h.perm (fun x=>?_) hndm;rw[wQ,hms x,hin x];refine or_congr oT ⟨fun⟨i,o,q1,q2,q3⟩=>⟨i,o,q1,by have h1:=hall i oM;rw[xM oM true false] at h1;exact h1,q2,q3⟩,fun⟨i,o,q1,_,q2,q3⟩=>⟨i,o,q1,q2,q3⟩⟩
 |succ fuel ih =>
  intro L a w S β τ objs' hsz hge hcl hun h hin hat;by_cases hfull:∀ j,j<k->Lst L j
  ·refine zES D hdst hk (fuel+1) k L (ps:=⟨ps2.tmps,ps.objs++ms⟩) (S:=S) (β:=β) (zV _) hkl hsz (fun j hj=>⟨fun hl=>?_,fun hj'=>hfull j hj'⟩) ?_ ?_ hK;{rcases wE j k with h'|h';{exact h'};{exact absurd hl (hge j hj h')}}
   ·have cnt:∀ n,k<=n->n<=ops.length->n<=k+unl L n:=by
     intro n;induction n with
     |zero=>intro _ _;omega| succ n ihn =>
      intro hkn hn;simp only[unl];by_cases hk0:k=n+1;{omega}
      ·(have:=ihn oM oM;have hnl:=hge n oM oM;have:L.getD n true≠true:=by rw[xM oM true false];exact hnl);rw[if_neg this]
       omega
    have:=cnt ops.length hkl (zV _);omega
   ·have:τ=zA ps2.tmps:=by
     (funext t;rw[ht2];have htx:=At.text (τ0:=zA ps.tmps) D hlen k (zV _);have e1:(ops.take k).take k=ops.take k:=by rw[tE,zK9]);have e2:pvs.take k=pvs:=yN (by rw[hlen];simp;omega)
     rw[e1,e2] at htx;exact hat.same D hpl htx fun j o hj ho hd=>.inl ⟨hfull j hj,hj⟩
    show Sim w0 S0 K0 N (zA ps2.tmps) (ps.objs++ms) a w S β;rw[<-this];refine h.perm (fun x=>?_) hndm;rw[wQ,hms x,hin x];exact or_congr oT ⟨fun⟨i,o,q1,q2,q3⟩=>⟨i,o,q1,hfull i q1,q2,q3⟩,fun⟨i,o,q1,_,q2,q3⟩=>⟨i,o,q1,q2,q3⟩⟩
  ·have hun0:∃ j,j<k/\¬Lst L j/\∀ i,i<j->Lst L i:=by
    have:∀ n,n<=k->(∀ i,i<n->Lst L i)\/∃ j,j<k/\¬Lst L j/\∀ i,i<j->Lst L i:=by
     intro n;induction n with
     |zero=>intro _;exact .inl fun i h=>by omega| succ n ihn =>
      intro hn;rcases ihn oM with h1|h1;{by_cases hx:Lst L n;{refine .inl fun i hi=>?_;by_cases e:i=n;{exact e ▸ hx};{exact h1 i oM}};{exact .inr ⟨n,by omega,hx,h1⟩}};{exact .inr h1}
    rcases this k (zV _) with h1|h1;{exact absurd h1 hfull};{exact h1}
   obtain⟨j0,hj0,hnj0,hbelow⟩:=hun0;refine⟨fun hr=>?_,fun i hi=>?_⟩
   ·(exfalso;have hlt:j0<ops.length:=by omega);have hin:j0∈Region.ready .any ops.toArray L:=by
     refine mem_ready.2 ⟨?_,ops[j0],by simp[hlt],fun e he hb=>?_⟩
     ·rw[xM oM true false];cases hx:L.getD j0 false with
      |false=>rfl| true=>exact absurd hx hnj0
     {exact hbelow e.on (D.back j0 _ (wN hlt) e (by simpa using he) hb)}
    rw[hr] at hin;cases hin
   ·(obtain⟨h1,o,h2,h3⟩:=mem_ready.1 hi;have ho:ops[i]?=some o:=by simpa using h2);have hlt:i<ops.length:=(v4.1 ho).1
    have hE:a5 (Lst L) o:=fun e he hb=>h3 e (by simpa using he) hb;have hik:i<k:=by rcases wE i k with h'|h';{exact h'};{exact absurd (xY hcl ho hE (D.rest i j0 hlt h' oM)) hnj0}
    (have hp:pvs[i]?=some pvs[i]:=wN oM;have hs0:=hst i o pvs[i] (by rw[wG hik];exact ho) hp;have hdo:=aP (hdst o (zZ ho));have hsize:i<L.size:=by omega);have hnl:¬Lst L i:=fun hl=>by rw[xM oM true false] at h1;unfold Lst at hl;rw[h1] at hl;exact absurd hl (by decide)
    (have hnext0:∀ {a':Act} {w':World} {S':Nat->Nat->Prop} {β':Bm} {objs2:List (Nat×Obj')},Sim w0 S0 K0 N (upd τ o.dst pvs[i]) objs2 a' w' S' β'->(∀ x,x∈objs2↔x∈objs'\/wY o=some x)->wpAny Pg .any ops.toArray Q fuel (L.setIfInBounds i true) a' w':=by intro a' w' S' β' objs2 hsim hin2;refine ih (L.setIfInBounds i true) (by simpa using hsz) (fun j hj hkj hl=>?_) (fun j oj hoj hl=>?_) ?_ hsim (fun x=>?_) (hat.step D hik ho hp fun j=>vA hsize j);{rcases (vA hsize j).1 hl with hl|hl;{exact hge j hj hkj hl};{omega}};{intro e he hb;rw[vA hsize];rcases (vA hsize j).1 hl with hl|hl;{exact .inl (hcl j oj hoj hl e he hb)};{subst hl;rw[ho] at hoj;cases hoj;exact .inl (hE e he hb)}};{have:=iW h1 hlt;omega};{rw[hin2 x,hin x];constructor;{rintro ((q|⟨j,oj,q1,q2,q3,q4⟩)|q);{exact .inl q};{exact .inr ⟨j,oj,q1,(vA hsize j).2 (.inl q2),q3,q4⟩};{exact .inr ⟨i,o,hik,(vA hsize i).2 (.inr rfl),ho,q⟩}};{rintro (q|⟨j,oj,q1,q2,q3,q4⟩);{exact .inl (.inl q)};{rcases (vA hsize j).1 q2 with q2|q2;{exact .inl (.inr ⟨j,oj,q1,q2,q3,q4⟩)};{subst q2;rw[ho] at q3;cases q3;exact .inr q4}}}});cases hmk:wY o with
    |some dx =>
     obtain⟨d,x⟩:=dx;obtain⟨hgn,hod,t0,hop0,hno0,hx0⟩:=jH hmk;unfold tM at hs0;rw[hmk] at hs0;have hinms:(d,x)∈ms:=(hms _).2 ⟨i,o,hik,ho,hmk⟩;obtain⟨f1,f2,f3,f4⟩:=hfr d x hinms;have htx:At ops k pvs (zA ps.tmps) (fun j=>j<k) (zA ps2.tmps):=by
      (have htx:=At.text (τ0:=zA ps.tmps) D hlen k (zV _);have e1:(ops.take k).take k=ops.take k:=by rw[tE,zK9]);have e2:pvs.take k=pvs:=yN (by rw[hlen];simp;omega)
      rw[e1,e2,<-ht2] at htx;exact htx
     have uniq:∀ j oj,j<k->ops[j]?=some oj->oj.dst=some d->j=i:=fun j oj hj hoj hd' =>
      bR D.dst (by rw[wG hj];exact hoj) (by rw[wG hik];exact ho) hd' hod
     refine d8 ho (.inl ⟨by simp[Region.wanted,hgn],zW5 hmk (hdst o (zZ ho)) h f1 (fun t=>?_) (fun {m y} hmy=>?_) fun a' w' β' hsim=>?_⟩);{by_cases hw:∃ j oj,j<k/\Lst L j/\ops[j]?=some oj/\oj.dst=some t;{obtain⟨j,oj,q1,q2,q3,q4⟩:=hw;have hpj:pvs[j]?=some pvs[j]:=wN oM;rw[hat.hit j oj t _ q1 q2 q3 hpj q4,<-htx.hit j oj t _ q1 q1 q3 hpj q4];refine f4 t fun e=>?_;subst e;exact hnl (uniq j oj q1 q3 q4 ▸ q2)};{rw[hat.miss t fun j oj q1 q2 q3 q4=>hw ⟨j,oj,q1,q2,q3,q4⟩];exact f2 t}};{rcases (hin _).1 hmy with q|⟨j,oj,q1,q2,q3,q4⟩;{exact f3 m y q};{obtain⟨_,hodj,t1,_,hno1,hy1⟩:=jH q4;refine⟨fun e=>?_,?_⟩;{subst e;exact hnl (uniq j oj q1 q3 hodj ▸ q2)};{rw[hy1];exact oV hno1}}};{rw[<-hs0] at hsim;refine hnext0 hsim fun y=>?_;rw[wQ,kE,hmk,bL];exact or_congr oT eq_comm}
    |none =>
    (have hs1:vM true ps.objs ops o (v8 ((ops.take k).take i) (pvs.take i) (zA ps.tmps)) pvs[i]:=by unfold tM at hs0;rw[hmk] at hs0;exact hs0);have hgo:∀ n o,yA ps.objs n=some o->yA objs' n=some o:=fun n o hg=>vY h.obj.nd ((hin _).2 (.inl (xH hg)))
    have hs2:vM true ps.objs ops o τ pvs[i]:=a7 (fun t ht=>At.same D hpl (At.text D hlen i oM) hat fun j oj hj hoj hd=>by
     rcases D.look i o t j oj hik hj ho hoj ht hd with⟨q1,q2⟩|⟨q1,q2⟩;{exact .inl ⟨q1,xY hcl ho hE q2⟩}
     ·refine .inr ⟨by omega,fun hl=>?_⟩;have:=xY hcl hoj (hcl j oj hoj hl) q2;rw[xM oM true false] at h1;exact absurd this (by unfold Lst;rw[h1];decide)) hs1
    have hnext:∀ {a':Act} {w':World} {S':Nat->Nat->Prop} {β':Bm},Sim w0 S0 K0 N (upd τ o.dst pvs[i]) objs' a' w' S' β'->wpAny Pg .any ops.toArray Q fuel (L.setIfInBounds i true) a' w':=fun hsim =>
     hnext0 hsim fun x=>⟨.inl,fun q=>q.resolve_right (by rw[hmk];simp)⟩
    refine d8 ho ?_;rcases j2 h.tmp hs2 with⟨hw,hA⟩|⟨hw,hB⟩;{refine .inl ⟨hw,zAW h (oX hgo hA) fun pv w' S' β' v hpv l hr=>?_⟩;exact hnext (l.put o.dst hdo (hr.le _ hpv))};{refine .inr ⟨hw,hnext (h.put o.dst hdo ?_)⟩;rw[hB];exact nA _ _ _}
theorem rU {m n:Nat}{o:Obj'}:∀ {l:List (Nat×Obj')},yA (xT l m) n=some o->n≠m/\yA l n=some o
 |[],h=>by simp[xT,yA] at h| (u,v)::r,h=>by
  unfold xT at h;cases hu:nqb u m with
  |true =>
   rw[hu] at h;obtain⟨h1,h2⟩:=rU h;have hum:=yM hu;refine⟨h1,?_⟩;unfold yA;have:nqb u n=false:=by
    cases hx:nqb u n with
    |false=>rfl| true=>exact absurd ((yM hx).symm.trans hum) h1
   rw[this];exact h2
  |false =>
   rw[hu] at h;unfold yA at h ⊢;cases hx:nqb u n with
   |true =>
    rw[hx] at h;refine⟨fun e=>?_,h⟩;have:=yM hx;rw[this,e,nqb_self] at hu;cases hu
   |false =>
    rw[hx] at h;exact rU h
theorem eZ {m n:Nat}{o x:Obj'}(hne:m≠n):∀ {l:List (Nat×Obj')},yA l n=some o->yA (setO l m x) n=some o
 |[],h=>by simp[yA] at h| (u,v)::r,h=>by
  unfold setO;cases hu:nqb u m with
  |true =>
   have hum:=yM hu;unfold yA at h ⊢;have h1:nqb u n=false:=by
    cases hx:nqb u n with
    |false=>rfl| true=>exact absurd (hum.symm.trans (yM hx)) hne
   (have h2:nqb m n=false:=by rw[<-hum];exact h1);rw[h1] at h
   show (match nqb m n with|true=>some x|false=>yA r n)=some o;rw[h2];exact h
  |false =>
   unfold yA at h ⊢;show (match nqb u n with|true=>some v|false=>yA (setO r m x) n)=some o;cases hx:nqb u n with
   |true=>rw[hx] at h;exact h| false=>rw[hx] at h;exact eZ hne h
theorem zB0 {objs objs':List (Nat×Obj')}{all:List Oper}{o:Oper}{τ:Nat->PV}{pv:PV}(hx:∀ n o,yA objs n=some o->yA objs' n=some o)(h:vM false objs all o τ pv):vM false objs' all o τ pv :=
 mF (fun h=>oX hx h) id h
theorem zSU {all:List Oper}{us:List Nat}{n:Nat}{K:PS->Prop}:∀ (l:List Oper) (i:Nat) {ps:PS},usWp all us n l i ps K->∃ pvs ps',pvs.length=l.length/\K ps'/\ps'.objs=ps.objs/\zA ps'.tmps=v8 l pvs (zA ps.tmps) /\ ∀ j o pv,l[j]?=some o->pvs[j]?=some pv->vM false ps.objs all o (v8 (l.take j) (pvs.take j) (zA ps.tmps)) pv/\(z8 (i+j) us=true->vM false (xT ps.objs n) all o (v8 (l.take j) (pvs.take j) (zA ps.tmps)) pv)
 |[],i,ps,h=>⟨[],ps,rfl,h,rfl,rfl,fun j o pv h=>by simp at h⟩| o::r,i,ps,h=>by
  simp only[usWp] at h;have hdel:∀ m y,yA (xT ps.objs n) m=some y->yA ps.objs m=some y:=fun m y q=>(rU q).2;obtain⟨pv,ps1,h1,ho1,ht1,h2,h3⟩:∃ pv ps1,usWp all us n r (i+1) ps1 K/\ps1.objs=ps.objs/\zA ps1.tmps=upd (zA ps.tmps) o.dst pv/\vM false ps.objs all o (zA ps.tmps) pv/\(z8 i us=true->vM false (xT ps.objs n) all o (zA ps.tmps) pv):=by
   have fin:∀ (objs:List (Nat×Obj')),objs=(match z8 i us with|true=>xT ps.objs n|false=>ps.objs)->∀ pv:PV,vM false objs all o (zA ps.tmps) pv->vM false ps.objs all o (zA ps.tmps) pv/\(z8 i us=true->vM false (xT ps.objs n) all o (zA ps.tmps) pv):=fun objs he pv hs=>by
    cases hu:z8 i us with
    |true=>rw[hu] at he;simp only at he;subst he;exact⟨zB0 hdel hs,fun _=>hs⟩| false=>rw[hu] at he;simp only at he;subst he;exact⟨hs,fun e=>by cases e⟩
   rcases tN h with⟨pv,q1,q2⟩|⟨q1,q2⟩;{obtain⟨pv',ps',g1,g2,g3,g4⟩:=t6 q1;exact⟨pv',ps',g2,g3,g4,fin _ rfl _ (q2 pv' g1)⟩};{exact⟨.tup [],_,q1,qP _ _ _,xP _ _ _,fin _ rfl _ q2⟩}
  obtain⟨pvs,ps',g1,g2,g3,g4,g5⟩:=zSU r (i+1) h1;refine⟨pv::pvs,ps',by simp[g1],g2,g3.trans ho1,by rw[g4,ht1];rfl,fun j o' pv' hj hp=>?_⟩;cases j with
  |zero =>
   simp only[mK,bL] at hj hp;subst hj hp;exact⟨h2,h3⟩
  |succ j =>
   simp only[aT] at hj hp;have:=g5 j o' pv' hj hp;rw[ho1,ht1] at this;rw[show i+(j+1)=i+1+j by omega];exact this
theorem zQ8 {o:Oper}{ts:TypeId}{ad v:Operand}{T:List (Nat×PV)}{objs:List (Nat×Obj')}{K:PS->Prop}(hop:o.op=.store ts ad v)(hd:o.dst=none)(h:cT o ⟨T,objs⟩ K){us:List Nat}{nn:Nat}(hto:stTo us nn o ⟨T,objs⟩=true):∃ objs2,(us≠[]->∀ m y,yA (xT objs nn) m=some y->yA objs2 m=some y)/\K ⟨T,objs2⟩/\∀ (K':PS->Prop) T',(∀ x,x∈o.op.operands.toList->ev (zA T') x=ev (zA T) x)->K' ⟨T',objs2⟩->cT o ⟨T',objs⟩ K':=by
 have hev:∀ {T'},(∀ x,x∈o.op.operands.toList->ev (zA T') x=ev (zA T) x)->ev (zA T') ad=ev (zA T) ad/\ev (zA T') v=ev (zA T) v:=fun hx =>
  ⟨hx ad (by simp[hop,Op.operands]),hx v (by simp[hop,Op.operands])⟩
 have hkey:us≠[]->∀ m':Nat,(∀ off,ev (zA T) ad=.ptr m' off->m'=nn)/\(∀ s i off,ev (zA T) ad=.aptr m' s i off->m'=nn):=fun hu m'=>by
  unfold stTo at hto;cases us with
  |nil=>exact absurd rfl hu| cons u r =>
   simp only[hop] at hto;exact⟨fun off e=>by rw[e] at hto;exact yM hto,fun s i off e=>by rw[e] at hto;exact yM hto⟩
 have hag:∀ (m':Nat) (x:Obj'),m'=nn->∀ m y,yA (xT objs nn) m=some y->yA (setO objs m' x) m=some y:=fun m' x e m y hm=>by subst e;obtain⟨q1,q2⟩:=rU hm;exact eZ (fun e=>q1 e.symm) q2
 unfold cT at h;simp only[hop,hd,put] at h;generalize hea:ev (zA T) ad=ea at *
 generalize hvv:ev (zA T) v=vv at *
 cases ea with
 |ptr n off =>
  simp only at h;cases hg:yA objs n with
  |none=>simp only[hg] at h| some x =>
   cases x with
   |arr s els=>simp only[hg] at h| log s els=>simp only[hg] at h| lent s els=>simp only[hg] at h| mat s r q=>simp only[hg] at h| box cs =>
    simp only[hg] at h;split at h;{rename_i hc;refine⟨_,fun hu=>hag n _ ((hkey hu n).1 off rfl),h,fun K' T' hx hK=>?_⟩;obtain⟨e1,e2⟩:=hev hx;unfold cT;simp only[hop,hd,put,e1,e2,hg,hc];exact hK};{exact h.elim}
 |aptr n s i off =>
  simp only at h;cases hg:yA objs n with
  |none=>simp only[hg] at h| some x =>
   cases x with
   |box cs=>simp only[hg] at h| log s els=>simp only[hg] at h| lent s els=>simp only[hg] at h| mat s0 r q =>
    simp only[hg] at h;split at h;{rename_i hc;obtain⟨hs1,v0,k,hs2,g1,g2,g3,g4⟩:=h.h;refine⟨_,fun hu=>hag n _ ((hkey hu n).2 s i off rfl),g4,fun K' T' hx hK=>?_⟩;obtain⟨e1,e2⟩:=hev hx;unfold cT;simp only[hop,hd,put,e1,e2,hg,hc];exact⟨⟨hs1,v0,k,hs2,g1,g2,g3,hK⟩⟩};{exact h.elim}
   |arr s' els =>
    simp only[hg] at h;split at h;{rename_i hc;obtain⟨c,g1,g2,g3,g4⟩:=h.h;refine⟨_,fun hu=>hag n _ ((hkey hu n).2 s i off rfl),g4,fun K' T' hx hK=>?_⟩;obtain⟨e1,e2⟩:=hev hx;unfold cT;simp only[hop,hd,put,e1,e2,hg,hc];exact⟨⟨c,g1,g2,g3,hK⟩⟩};{exact h.elim}
 |_=>simp only at h
theorem zAV {objs objs':List (Nat×Obj')}{all:List Oper}{o:Oper}{τ:Nat->PV}{pv:PV}(hb:zQU o=true)(h:vM false objs all o τ pv):vM false objs' all o τ pv :=
 mF (fun h=>zLM hb h) id h
theorem zDB:∀ {l1 l2:List Oper} {v1 v2:List PV} {τ:Nat->PV},v1.length=l1.length->v8 (l1++l2) (v1++v2) τ=v8 l2 v2 (v8 l1 v1 τ)
 |[],l2,[],v2,τ,_=>rfl| o::r,l2,v::vs,v2,τ,h=>by simp only[mM,v8];exact zDB (by simpa using h)| [],l2,v::vs,v2,τ,h=>by simp at h| o::r,l2,[],v2,τ,h=>by simp at h
theorem zY8 {ops:List Oper}{k:Nat}(D:DrawOk ops k){Q:Exit->Act->World->Prop}{K:PS->Prop}(hdst:∀ o,o∈ops->rX N o=true)(hk:∀ ps' a' w' S' β',K ps'->Sim w0 S0 K0 N (zA ps'.tmps) ps'.objs a' w' S' β'->Q .normal a' w') {T0:List (Nat×PV)} {objs1 objs2:List (Nat×Obj')} {ps2:PS} {pvs:List PV} {i0:Nat} {os:Oper} (hi0:i0<k) (hos:ops[i0]?=some os) (hg:os.guard=none) (hkl:k<=ops.length) (hlen:pvs.length=(ops.take k).length) (hK:qY ops (ops.drop k) ⟨ps2.tmps,objs2⟩ K) (ht2:zA ps2.tmps=v8 (ops.take k) pvs (zA T0)) (hst:∀ i o pv,i<k->i≠i0->ops[i]?=some o->pvs[i]?=some pv->(vM false objs1 ops o (v8 ((ops.take k).take i) (pvs.take i) (zA T0)) pv\/((anc ops).getD i 0).testBit i0=true) /\ (vM false objs2 ops o (v8 ((ops.take k).take i) (pvs.take i) (zA T0)) pv\/((anc ops).getD i0 0).testBit i=true)) (hsto:∀ T,(∀ t,t∈jI ops os->zA T t=v8 ((ops.take k).take i0) (pvs.take i0) (zA T0) t)->cT os ⟨T,objs1⟩ (fun p=>zA p.tmps=upd (zA T) os.dst (pvs.getD i0 .any)/\p.objs=objs2)):∀ (fuel:Nat) (L:Array Bool) {a:Act} {w:World} {S:Nat->Nat->Prop} {β:Bm} {T:List (Nat×PV)} {objs':List (Nat×Obj')},L.size=ops.length->(∀ j,j<ops.length->k<=j->¬Lst L j)->(∀ i o,ops[i]?=some o->Lst L i->a5 (Lst L) o)->unl L ops.length<=fuel ->Sim w0 S0 K0 N (zA T) objs' a w S β->(Lst L i0->objs'=objs2)->(¬Lst L i0->objs'=objs1)->At ops k pvs (zA T0) (Lst L) (zA T)->wpAny Pg .any ops.toArray Q fuel L a w:=by
 have hpl:k<=pvs.length:=by rw[hlen];simp;omega
 have hend:∀ {T:List (Nat×PV)} {L:Array Bool},(∀ j,j<k->Lst L j)->At ops k pvs (zA T0) (Lst L) (zA T)->zA T=zA ps2.tmps:=by
  (intro T L hfull hat;funext t;rw[ht2];have htx:=At.text (τ0:=zA T0) D hlen k (zV _);have e1:(ops.take k).take k=ops.take k:=by rw[tE,zK9]);have e2:pvs.take k=pvs:=yN (by rw[hlen];simp;omega)
  rw[e1,e2] at htx;exact hat.same D hpl htx fun j o hj ho hd=>.inl ⟨hfull j hj,hj⟩
 intro fuel;induction fuel with
 |zero =>
  (intro L a w S β T objs' hsz hge hcl hun h hob1 hob2 hat;have hall:=tK (Nat.le_zero.1 hun);have hall':∀ j,j<ops.length->Lst L j:=fun j hj=>by have h1:=hall j hj;rw[xM oM true false] at h1;exact h1);have hkn:ops.length<=k:=by rcases wE k ops.length with h'|h';{exact absurd (hall' k h') (hge k h' (zV _))};{exact h'}
  (have hk':k=ops.length:=by omega);refine zES D hdst hk 0 k L (ps:=⟨ps2.tmps,objs2⟩) (S:=S) (β:=β) (zV _) hkl hsz (fun j hj=>⟨fun _=>by omega,fun _=>hall' j hj⟩) oM ?_ hK
  show Sim w0 S0 K0 N (zA ps2.tmps) objs2 a w S β;rw[<-hend (fun j hj=>hall' j oM) hat,<-hob1 (hall' i0 oM)];exact h
 |succ fuel ih =>
  intro L a w S β T objs' hsz hge hcl hun h hob1 hob2 hat;by_cases hfull:∀ j,j<k->Lst L j
  ·refine zES D hdst hk (fuel+1) k L (ps:=⟨ps2.tmps,objs2⟩) (S:=S) (β:=β) (zV _) hkl hsz (fun j hj=>⟨fun hl=>?_,fun hj'=>hfull j hj'⟩) ?_ ?_ hK;{rcases wE j k with h'|h';{exact h'};{exact absurd hl (hge j hj h')}}
   ·have cnt:∀ n,k<=n->n<=ops.length->n<=k+unl L n:=by
     intro n;induction n with
     |zero=>intro _ _;omega| succ n ihn =>
      intro hkn hn;simp only[unl];by_cases hk0:k=n+1;{omega}
      ·(have:=ihn oM oM;have hnl:=hge n oM oM;have:L.getD n true≠true:=by rw[xM oM true false];exact hnl);rw[if_neg this]
       omega
    have:=cnt ops.length hkl (zV _);omega
   {show Sim w0 S0 K0 N (zA ps2.tmps) objs2 a w S β;rw[<-hend hfull hat,<-hob1 (hfull i0 hi0)];exact h}
  ·have hun0:∃ j,j<k/\¬Lst L j/\∀ i,i<j->Lst L i:=by
    have:∀ n,n<=k->(∀ i,i<n->Lst L i)\/∃ j,j<k/\¬Lst L j/\∀ i,i<j->Lst L i:=by
     intro n;induction n with
     |zero=>intro _;exact .inl fun i h=>by omega| succ n ihn =>
      intro hn;rcases ihn oM with h1|h1;{by_cases hx:Lst L n;{refine .inl fun i hi=>?_;by_cases e:i=n;{exact e ▸ hx};{exact h1 i oM}};{exact .inr ⟨n,by omega,hx,h1⟩}};{exact .inr h1}
    rcases this k (zV _) with h1|h1;{exact absurd h1 hfull};{exact h1}
   obtain⟨j0,hj0,hnj0,hbelow⟩:=hun0;refine⟨fun hr=>?_,fun i hi=>?_⟩
   ·(exfalso;have hlt:j0<ops.length:=by omega);have hin:j0∈Region.ready .any ops.toArray L:=by
     refine mem_ready.2 ⟨?_,ops[j0],by simp[hlt],fun e he hb=>?_⟩
     ·rw[xM oM true false];cases hx:L.getD j0 false with
      |false=>rfl| true=>exact absurd hx hnj0
     {exact hbelow e.on (D.back j0 _ (wN hlt) e (by simpa using he) hb)}
    rw[hr] at hin;cases hin
   ·(obtain⟨h1,o,h2,h3⟩:=mem_ready.1 hi;have ho:ops[i]?=some o:=by simpa using h2);have hlt:i<ops.length:=(v4.1 ho).1
    have hE:a5 (Lst L) o:=fun e he hb=>h3 e (by simpa using he) hb;have hik:i<k:=by rcases wE i k with h'|h';{exact h'};{exact absurd (xY hcl ho hE (D.rest i j0 hlt h' oM)) hnj0}
    (have hp:pvs[i]?=some pvs[i]:=wN oM;have hdo:=aP (hdst o (zZ ho));have hsize:i<L.size:=by omega);have hnl:¬Lst L i:=fun hl=>by rw[xM oM true false] at h1;unfold Lst at hl;rw[h1] at hl;exact absurd hl (by decide)
    (have hagree:∀ t,t∈jI ops o->v8 ((ops.take k).take i) (pvs.take i) (zA T0) t=zA T t:=fun t ht=>At.same D hpl (At.text D hlen i oM) hat fun j oj hj hoj hd=>by rcases D.look i o t j oj hik hj ho hoj ht hd with⟨q1,q2⟩|⟨q1,q2⟩;{exact .inl ⟨q1,xY hcl ho hE q2⟩};{refine .inr ⟨by omega,fun hl=>?_⟩;have:=xY hcl hoj (hcl j oj hoj hl) q2;rw[xM oM true false] at h1;exact absurd this (by unfold Lst;rw[h1];decide)});have hnext:∀ {a':Act} {w':World} {S':Nat->Nat->Prop} {β':Bm} {T':List (Nat×PV)} {objs3:List (Nat×Obj')},zA T'=upd (zA T) o.dst pvs[i]->Sim w0 S0 K0 N (zA T') objs3 a' w' S' β'->(Lst (L.setIfInBounds i true) i0->objs3=objs2)->(¬Lst (L.setIfInBounds i true) i0->objs3=objs1)->wpAny Pg .any ops.toArray Q fuel (L.setIfInBounds i true) a' w':=by intro a' w' S' β' T' objs3 hT hsim g1 g2;refine ih (L.setIfInBounds i true) (by simpa using hsz) (fun j hj hkj hl=>?_) (fun j oj hoj hl=>?_) ?_ hsim g1 g2 (by rw[hT];exact hat.step D hik ho hp fun j=>vA hsize j);{rcases (vA hsize j).1 hl with hl|hl;{exact hge j hj hkj hl};{omega}};{intro e he hb;rw[vA hsize];rcases (vA hsize j).1 hl with hl|hl;{exact .inl (hcl j oj hoj hl e he hb)};{subst hl;rw[ho] at hoj;cases hoj;exact .inl (hE e he hb)}};{have:=iW h1 hlt;omega}
    by_cases hie:i=i0;{subst hie;rw[ho] at hos;cases hos;have hob:objs'=objs1:=hob2 hnl;subst hob;have hs0:=hsto T fun t ht=>(hagree t ht).symm;refine d8 ho (.inl ⟨by simp[Region.wanted,hg],dV (ps:=⟨T,objs'⟩) h hs0 hdo fun ps' a' w' S' β' hK hsim=>?_⟩);obtain⟨hK1,hK2⟩:=hK;refine hnext (T':=ps'.tmps) (objs3:=ps'.objs) ?_ hsim (fun _=>hK2) (fun hn=>absurd ((vA hsize i).2 (.inr rfl)) hn);rw[hK1,yC,hp];rfl}
    ·(obtain⟨hA1,hA2⟩:=hst i o _ hik hie ho hp;have hsame:(Lst (L.setIfInBounds i true) i0↔Lst L i0):=by rw[vA hsize];exact⟨fun q=>q.resolve_right fun e=>hie e.symm,.inl⟩);have hs1:vM false objs' ops o (v8 ((ops.take k).take i) (pvs.take i) (zA T0)) pvs[i]:=by by_cases hl0:Lst L i0;{rw[hob1 hl0];rcases hA2 with q|q;{exact q};{exact absurd (xY hcl hos (hcl i0 os hos hl0) q) hnl}};{rw[hob2 hl0];rcases hA1 with q|q;{exact q};{exact absurd (xY hcl ho hE q) hl0}}
     have hs2:vM false objs' ops o (zA T) pvs[i]:=a7 hagree hs1;refine d8 ho ?_;rcases j2 h.tmp hs2 with⟨hw,hA⟩|⟨hw,hB⟩;{refine .inl ⟨hw,lO h hA fun pv w' S' v hpv l hr=>?_⟩;refine hnext (S':=S') (β':=β) (T':=(put ⟨T,[]⟩ o.dst pvs[i]).tmps) (xP _ _ _) ?_ (fun q=>hob1 (hsame.1 q)) (fun q=>hob2 fun q'=>q (hsame.2 q'));rw[xP];exact (h.go l).put o.dst hdo (hr.le _ hpv)};{refine .inr ⟨hw,hnext (S':=S) (β':=β) (T':=(put ⟨T,[]⟩ o.dst pvs[i]).tmps) (xP _ _ _) ?_ (fun q=>hob1 (hsame.1 q)) (fun q=>hob2 fun q'=>q (hsame.2 q'))⟩;rw[xP];refine h.put o.dst hdo ?_;rw[hB];exact nA _ _ _}
theorem lE:∀ {l:List Oper} {x:Nat×Obj'},x∈yZ l↔∃ (i:Nat) (o:Oper),l[i]?=some o/\wY o=some x
 |[],x=>by simp[yZ]| o::r,x=>by
  have ih:=@lE r x;unfold yZ;constructor;{intro h;split at h;{rename_i y hy;rcases z9.1 h with h|h;{exact⟨0,o,rfl,by rw[h];exact hy⟩};{obtain⟨i,o',q1,q2⟩:=ih.1 h;exact⟨i+1,o',by simpa using q1,q2⟩}};{obtain⟨i,o',q1,q2⟩:=ih.1 h;exact⟨i+1,o',by simpa using q1,q2⟩}}
  ·rintro⟨i,o',q1,q2⟩;cases i with
   |zero =>
    simp only[mK,bL] at q1;subst q1;rw[q2];exact xD
   |succ i =>
    have:=ih.2 ⟨i,o',by simpa using q1,q2⟩;split;{exact xI _ this};{exact this}
theorem eR {ops:List Oper}{k:Nat}{x:Nat×Obj'}:x∈yZ (ops.take k)↔∃ i o,i<k/\ops[i]?=some o/\wY o=some x:=by
 rw[lE];constructor
 ·(rintro⟨i,o,q1,q2⟩;have hlt:i<k:=by have:=(v4.1 q1).1;simp at this;omega);exact⟨i,o,hlt,by rwa [wG hlt] at q1,q2⟩
 {rintro⟨i,o,q0,q1,q2⟩;exact⟨i,o,by rw[wG q0];exact q1,q2⟩}
theorem t9 {ps:PS}:∀ {l:List (Nat×Obj')} {n:Nat} {o:Obj'},mkIn ps l=true->(n,o)∈l->yJ n ps=true
 |[],n,o,_,h=>by simp at h| (m,x)::r,n,o,hm,h=>by simp only[mkIn,y9] at hm;rcases z9.1 h with h|h;{cases h;exact hm.1};{exact t9 hm.2 h}
theorem zAG {T:List (Nat×PV)}:∀ {l:List (Nat×Obj')} {n:Nat} {o:Obj'},zGW T l=true->(n,o)∈l->mfT n T=true
 |[],n,o,_,h=>by simp at h| (m,x)::r,n,o,hm,h=>by simp only[zGW,y9] at hm;rcases z9.1 h with h|h;{cases h;exact hm.1};{exact zAG hm.2 h}
theorem zDX {n t:Nat}(ht:t≠n):∀ {T:List (Nat×PV)},mfT n T=true->xV n (zA T t)=true
 |[],_=>rfl| (u,v)::r,h=>by
  simp only[mfT,y9] at h;unfold zA;cases hu:nqb u t with
  |true =>
   (have:=yM hu;subst this;have hne:(u == n)=false:=by simpa using ht);rw[hne] at h
   exact h.1
  |false=>exact zDX ht h.2
theorem zF5:∀ l:List PV,vL (fun v=>v) l=l
 |[]=>rfl| v::r=>by unfold vL;rw[zF5 r]
theorem zF1:∀ l:List (Nat×PV),wX (fun v=>v) l=l
 |[]=>rfl| (t,v)::r=>by unfold wX;rw[zF1 r]
theorem zF3:∀ l:List (PV×(Unit->Nat)),gF (fun v=>v) l=l
 |[]=>rfl| (v,k)::r=>by unfold gF;rw[zF3 r]
theorem zLW (o:Obj'):x9 (fun v=>v) o=o:=by
 cases o with
 |box cs=>simp only[x9,zF5]| mat s r q=>simp only[x9,zF3]| _=>rfl
theorem zF2:∀ l:List (Nat×Obj'),y5 (fun v=>v) l=l
 |[]=>rfl| (n,o)::r=>by
  (have e:y5 (fun v=>v) ((n,o)::r)=(n,x9 (fun v=>v) o)::y5 (fun v=>v) r:=by cases o <;> rfl);rw[e,zF2 r,zLW]
theorem zGC {n:Nat}{o:Obj'}:∀ (M:List Nat) {l:List (Nat×Obj')},yA (hH M l) n=some o->z8 n M=false/\yA l n=some o
 |[],l,h=>⟨rfl,h⟩| m::r,l,h=>by
  unfold hH at h;obtain⟨h1,h2⟩:=zGC r h;obtain⟨h3,h4⟩:=rU h2;refine⟨?_,h4⟩;unfold z8;rw[h1];cases hx:nqb m n with
  |false=>rfl| true=>exact absurd (yM hx).symm h3
theorem bD:∀ {l:List (Nat×Obj')} {n:Nat} {x:Obj'},n∈l.map Prod.fst->(n,x)∈setO l n x
 |(u,v)::r,n,x,hn=>by
  unfold setO;cases hu:nqb u n with
  |true=>exact xD| false =>
   (have hne:u≠n:=fun e=>by subst e;simp at hu);have hn':n∈r.map Prod.fst:=by simp only[uC,z9] at hn;exact hn.resolve_left fun e=>hne e.symm
   exact xI _ (bD hn')
 |[],n,x,hn=>by simp at hn
theorem eN:∀ {l:List (Nat×Obj')} {n m:Nat} {x o:Obj'},m≠n->(m,o)∈l->(m,o)∈setO l n x
 |(u,v)::r,n,m,x,o,hne,h=>by
  unfold setO;cases hu:nqb u n with
  |true =>
   have:=yM hu;rcases z9.1 h with h|h;{cases h;exact absurd this hne};{exact xI _ h}
  |false =>
   rcases z9.1 h with h|h;{rw[h];exact xD};{exact xI _ (eN hne h)}
 |[],n,m,x,o,hne,h=>by simp at h
theorem eO {l:List (Nat×Obj')}{n m:Nat}{x o:Obj'}(hnd:(l.map Prod.fst).Nodup)(hn:n∈l.map Prod.fst):(m,o)∈setO l n x↔(m=n/\o=x)\/(m≠n/\(m,o)∈l) :=
 ⟨wF hnd hn,fun h=>by
  rcases h with⟨rfl,rfl⟩|⟨h1,h2⟩;{exact bD hn}
  ·exact eN h1 h2⟩
theorem gT:∀ (l r:List Oper),yZ (l++r)=yZ l++yZ r
 |[],r=>rfl| o::l,r=>by
  simp only[mM,yZ];cases wY o with
  |none=>exact gT l r| some x=>simp only[mM,gT l r]
theorem jY:∀ {es:List (Nat×Nat)} {i n:Nat},yT es i=some n->(i,n)∈es
 |(a,b)::r,i,n,h=>by
  unfold yT at h;cases ha:nqb a i with
  |true =>
   rw[ha] at h;have:=yM ha;cases h;subst this;exact xD
  |false=>rw[ha] at h;exact xI _ (jY h)
 |[],i,n,h=>by simp[yT] at h
theorem rL:∀ {l:List Nat} {n:Nat},n∈l->z8 n l=true
 |m::r,n,h=>by unfold z8;rcases z9.1 h with rfl|h;{simp};{rw[rL h];simp}
 |[],n,h=>by simp at h
theorem zDF:∀ {es:List (Nat×Nat)} {i n:Nat},(i,n)∈es->n∈qM es
 |(a,b)::r,i,n,h=>by unfold qM;rcases z9.1 h with h|h;{cases h;exact xD};{exact xI _ (zDF h)}
 |[],i,n,h=>by simp at h
theorem zAI:∀ {es:List (Nat×Nat)} {i j n:Nat},zMG (qM es)=true->yT es i=some n->yT es j=some n->i=j
 |(a,b)::r,i,j,n,hd,h1,h2=>by
  (unfold qM zMG at hd;simp only[y9,zLH] at hd;unfold yT at h1 h2;have bad:∀ {x},yT r x=some b->False:=fun h=>by rw[rL (zDF (jY h))] at hd;cases hd.1);cases ha:nqb a i with
  |true =>
   rw[ha] at h1;cases h1;cases hb:nqb a j with
   |true=>exact (yM ha).symm.trans (yM hb)| false=>rw[hb] at h2;exact (bad h2).elim
  |false =>
   rw[ha] at h1;cases hb:nqb a j with
   |true=>rw[hb] at h2;cases h2;exact (bad h1).elim
   |false=>rw[hb] at h2;exact zAI hd.2 h1 h2
 |[],i,j,n,_,h1,_=>by simp[yT] at h1
theorem zB8:∀ {ms:List (Nat×Obj')} {cs:List PV},zIM ms cs=true->∀ d y,(d,y)∈ms->w6 d cs=true
 |(a,b)::r,cs,h,d,y,hm=>by unfold zIM at h;simp only[y9] at h;rcases z9.1 hm with hm|hm;{cases hm;exact h.1};{exact zB8 h.2 d y hm}
 |[],cs,h,d,y,hm=>by simp at hm
theorem eS {ops:List Oper}{o:Oper}{T:List (Nat×PV)}{τ:Nat->PV}(hg:o.guard=none)(h:∀ t,t∈jI ops o->zA T t=τ t):∀ x,x∈o.op.operands.toList->ev (zA T) x=ev τ x:=fun x hx=>by
 cases x with
 |tmp t =>
  show zA T t=τ t;refine h t ?_;unfold jI;rw[hg];refine dB _ ?_;rw[zML];exact⟨_,hx,rfl⟩
 |_=>rfl
inductive EfStep (ops:List Oper) (es:List (Nat×Nat)) (ms lim:List (Nat×Obj')) (i:Nat) (o:Oper) (τ:Nat->PV) (pv:PV) (O O':List (Nat×Obj')):Prop
 |mk {d x} (h:wY o=some (d,x)) (hp:pv=.ptr d 0) (hO:O'=O++[(d,x)])
 |eff {n x x0} (hm:wY o=none) (he:yT es i=some n) (h0:yA O n=some x0) (hfree:∀ d y,(d,y)∈ms->f6 d x) (hg:o.guard=none)
   (hgo:∀ (T':List (Nat×PV)) (O1:List (Nat×Obj')),(∀ t,t∈jI ops o->zA T' t=τ t)->yA O1 n=some x0->cT o ⟨T',O1⟩ (fun p=>zA p.tmps=upd (zA T') o.dst pv/\p.objs=setO O1 n x)) (hO:O'=setO O n x)
 |pure (hm:wY o=none) (he:yT es i=none) (h:vM true lim ops o τ pv) (hO:O'=O)
theorem zV6 {ops:List Oper}{ms:List (Nat×Obj')}{o:Oper}{n:Nat}{T:List (Nat×PV)}{O:List (Nat×Obj')}{K:PV->Obj'->Prop}(h:eff1 ms o n T O K):∃ pv x x0,K pv x/\yA O n=some x0/\(∀ d y,(d,y)∈ms->f6 d x)/\o.guard=none /\ ∀ (T':List (Nat×PV)) (O1:List (Nat×Obj')),(∀ t,t∈jI ops o->zA T' t=zA T t)->yA O1 n=some x0->cT o ⟨T',O1⟩ (fun p=>zA p.tmps=upd (zA T') o.dst pv/\p.objs=setO O1 n x):=by
 unfold eff1 at h;cases hg:o.guard with
 |some g=>rw[hg] at h;exact h.elim| none =>
 rw[hg] at h;simp only at h;cases hop:o.op with
 |store t a v =>
  rw[hop] at h;simp only at h;cases hd:o.dst with
  |some d=>rw[hd] at h;exact h.elim| none =>
   rw[hd] at h;simp only at h;cases hea:ev (zA T) a with
   |ptr m off =>
    rw[hea] at h;simp only at h;cases hmn:nqb m n with
    |false=>rw[hmn] at h;exact h.elim| true =>
     rw[hmn] at h;simp only at h;have:=yM hmn;subst this;cases hgo:yA O m with
     |none=>rw[hgo] at h;exact h.elim| some x0 =>
      rw[hgo] at h;cases x0 with
      |arr s e=>exact h.elim| log s e=>exact h.elim| lent s e=>exact h.elim| mat s r q=>exact h.elim| box cs =>
       simp only at h;split at h;{rename_i hc;simp only[y9] at hc;refine⟨_,_,_,h,rfl,fun d y hy=>zB8 hc.2 d y hy,rfl,fun T' O1 hT hO=>?_⟩;have hev:=eS hg hT;have e1:ev (zA T') a=.ptr m off:=(hev a (by simp[hop,Op.operands])).trans hea;have e2:ev (zA T') v=ev (zA T) v:=hev v (by simp[hop,Op.operands]);have hc':=hc.1;unfold cT;simp only[hop,e1,e2,hO];rw[show (nqb (yP (ev (zA T) v)).length (ty t).cells&&nle (off+(ty t).cells) cs.length&&nlt 0 (ty t).cells&&yV pT (yP (ev (zA T) v)))=true by simp only[y9];exact hc'];simp only[hd,put];refine⟨?_,?_⟩ <;> first|rfl|trivial};{exact h.elim}
   |_=>rw[hea] at h;exact h.elim
 |call c =>
  rw[hop] at h;simp only at h;cases hcl:c.callee with
  |value g =>
   rw[hcl] at h;simp only at h;obtain⟨f,caps,hn,cargs,m,x,r,x',E1,E2,E3,E4,E5,E6,E7,E8,E9,E10,E11⟩:=h.h;refine⟨_,_,_,E11,E5,fun d y _=>?_,rfl,fun T' O1 hT hO=>?_⟩
   ·cases x' with
    |box cs=>exact zFP d E7| arr s e=>trivial| log s e=>trivial| lent s e=>trivial| mat s r q =>
     cases q with
     |nil=>rfl| cons x y=>cases E7
   {have hev:=eS hg hT;have hargs:∀ x,x∈c.args.toList->ev (zA T') x=ev (zA T) x:=fun x hx=>hev x (by rw[hop];simp only[Op.operands,Call.operands,zMM,wQ];exact .inr hx);have hf:ev (zA T') g=ev (zA T) g:=hev g (by simp[hop,Op.operands,Call.operands,hcl]);subst E4;unfold cT;simp only[hop,hcl];refine⟨⟨T',O1⟩,.refl _,f,caps,by rw[hf];exact E1,.inr ⟨hn,cargs,[(m,x)],[],r,[(m,x')],[],?_,E3,⟨⟨by rw[zCK E6];exact hO,zA8 E6⟩,trivial⟩,rfl,rfl,?_,rfl,rfl,E8,E9,E10,?_,?_⟩⟩;{rw[rW hargs];exact E2};{show ((c6 x'&&nmOb [m] x')&&true)=true;rw[zA8 E7,zQE E7];rfl};{rw[xP];show upd (zA (wX (fun v=>v) T')) o.dst _=_;rw[zF1]};{rw[qP];show setO (y5 (fun v=>v) O1) (hn m) (x9 (ren hn) x')++[]=_;rw[zF2,kC,zCK E7]}}
  |_=>rw[hcl] at h;exact h.elim
 |_=>rw[hop] at h;exact h.elim
theorem zTQ {ops:List Oper}{es:List (Nat×Nat)}{ms lim:List (Nat×Obj')}{K:List (Nat×PV)->List (Nat×Obj')->Prop}:∀ (l:List Oper) (i:Nat) {T:List (Nat×PV)} {O:List (Nat×Obj')},efWp ops es ms lim l i T O K ->∃ (pvs:List PV) (Ob:Nat->List (Nat×Obj')) (T':List (Nat×PV)),pvs.length=l.length/\Ob 0=O/\K T' (Ob l.length)/\zA T'=v8 l pvs (zA T) /\ ∀ j o pv,l[j]?=some o->pvs[j]?=some pv->EfStep ops es ms lim (i+j) o (v8 (l.take j) (pvs.take j) (zA T)) pv (Ob j) (Ob (j+1))
 |[],i,T,O,h=>⟨[],fun _=>O,T,rfl,rfl,h,rfl,fun j o pv h=>by simp at h⟩| o::r,i,T,O,h=>by
  obtain⟨pv,O1,T1,h1,ht1,hst⟩:∃ pv O1 T1,efWp ops es ms lim r (i+1) T1 O1 K/\zA T1=upd (zA T) o.dst pv/\EfStep ops es ms lim i o (zA T) pv O O1:=by
   unfold efWp at h;cases hm:wY o with
   |some dx =>
    obtain⟨d,x⟩:=dx;rw[hm] at h;simp only at h;obtain⟨_,hd,_⟩:=jH hm;exact⟨.ptr d 0,_,_,h,by rw[hd];funext t;simp[upd,cJ],.mk hm rfl rfl⟩
   |none =>
    rw[hm] at h;simp only at h;cases he:yT es i with
    |some n =>
     rw[he] at h;simp only at h;obtain⟨pv,x,x0,h1,h2,h3,h4,h5⟩:=zV6 (ops:=ops) h;exact⟨pv,_,_,h1,xP _ _ _,.eff hm he h2 h3 h4 h5 rfl⟩
    |none =>
     rw[he] at h;simp only at h;rcases tN h with⟨pv,q1,q2⟩|⟨q1,q2⟩;{obtain⟨pv',p,g1,g2,g3,g4⟩:=t6 q1;exact⟨pv',O,p.tmps,g2,g4,.pure hm he (q2 pv' g1) rfl⟩};{exact⟨.tup [],O,_,q1,xP _ _ _,.pure hm he q2 rfl⟩}
  obtain⟨pvs,Ob,T',g1,g2,g3,g4,g5⟩:=zTQ r (i+1) h1;refine⟨pv::pvs,fun j=>match j with|0=>O|j+1=>Ob j,T',by simp[g1],rfl,by simpa using g3,by rw[g4,ht1];rfl,fun j o' pv' hj hp=>?_⟩;cases j with
  |zero =>
   simp only[mK,bL] at hj hp;subst hj hp;show EfStep ops es ms lim i o _ pv O (Ob 0);rw[g2];exact hst
  |succ j =>
   simp only[aT] at hj hp;have:=g5 j o' pv' hj hp;rw[ht1] at this;rw[show i+(j+1)=i+1+j by omega];exact this
def EMem (ops:List Oper) (es:List (Nat×Nat)) (k:Nat) (O0:List (Nat×Obj')) (X:Nat->Obj') (L:Nat->Prop) (y:Nat×Obj'):Prop :=
 ((y∈O0\/∃ j oj,j<k/\L j/\ops[j]?=some oj/\wY oj=some y)/\¬∃ i,i<k/\yT es i=some y.1/\L i)\/(∃ i,i<k/\yT es i=some y.1/\L i/\X i=y.2)
section
variable {ops:List Oper} {es:List (Nat×Nat)} {k:Nat} {O0:List (Nat×Obj')} {X:Nat->Obj'} {L L':Nat->Prop}
theorem EMem.pure {i:Nat}{o:Oper}(ho:ops[i]?=some o)(hm:wY o=none)(he:yT es i=none)(hL':∀ j,L' j↔L j\/j=i)(y:Nat×Obj'):EMem ops es k O0 X L' y↔EMem ops es k O0 X L y:=by
 have h1:(∃ j oj,j<k/\L' j/\ops[j]?=some oj/\wY oj=some y)↔∃ j oj,j<k/\L j/\ops[j]?=some oj/\wY oj=some y:=by constructor;{rintro⟨j,oj,q1,q2,q3,q4⟩;rcases (hL' j).1 q2 with q|q;{exact⟨j,oj,q1,q,q3,q4⟩};{subst q;rw[ho] at q3;cases q3;rw[hm] at q4;cases q4}};{rintro⟨j,oj,q1,q2,q3,q4⟩;exact⟨j,oj,q1,(hL' j).2 (.inl q2),q3,q4⟩}
 have h2:∀ P:Nat->Prop,(∃ j,j<k/\yT es j=some y.1/\L' j/\P j)↔∃ j,j<k/\yT es j=some y.1/\L j/\P j:=by intro P;constructor;{rintro⟨j,q1,q2,q3,q4⟩;rcases (hL' j).1 q3 with q|q;{exact⟨j,q1,q2,q,q4⟩};{subst q;rw[he] at q2;cases q2}};{rintro⟨j,q1,q2,q3,q4⟩;exact⟨j,q1,q2,(hL' j).2 (.inl q3),q4⟩}
 have h3:(∃ i,i<k/\yT es i=some y.1/\L' i)↔∃ i,i<k/\yT es i=some y.1/\L i:=by simpa using h2 (fun _=>True)
 unfold EMem;rw[h1,h2,h3]
theorem EMem.mk {i:Nat}{o:Oper}{d:Nat}{x:Obj'}(ho:ops[i]?=some o)(hik:i<k)(hm:wY o=some (d,x))(he:yT es i=none)(hno:∀ j,j<k->yT es j=some d->¬L j)(hL':∀ j,L' j↔L j\/j=i)(y:Nat×Obj'):EMem ops es k O0 X L' y↔EMem ops es k O0 X L y\/y=(d,x):=by
 have h1:(∃ j oj,j<k/\L' j/\ops[j]?=some oj/\wY oj=some y)↔(∃ j oj,j<k/\L j/\ops[j]?=some oj/\wY oj=some y)\/y=(d,x):=by constructor;{rintro⟨j,oj,q1,q2,q3,q4⟩;rcases (hL' j).1 q2 with q|q;{exact .inl ⟨j,oj,q1,q,q3,q4⟩};{subst q;rw[ho] at q3;cases q3;rw[hm] at q4;cases q4;exact .inr rfl}};{rintro (⟨j,oj,q1,q2,q3,q4⟩|q);{exact⟨j,oj,q1,(hL' j).2 (.inl q2),q3,q4⟩};{exact⟨i,o,hik,(hL' i).2 (.inr rfl),ho,by rw[hm,q]⟩}}
 have h2:∀ P:Nat->Prop,(∃ j,j<k/\yT es j=some y.1/\L' j/\P j)↔∃ j,j<k/\yT es j=some y.1/\L j/\P j:=by intro P;constructor;{rintro⟨j,q1,q2,q3,q4⟩;rcases (hL' j).1 q3 with q|q;{exact⟨j,q1,q2,q,q4⟩};{subst q;rw[he] at q2;cases q2}};{rintro⟨j,q1,q2,q3,q4⟩;exact⟨j,q1,q2,(hL' j).2 (.inl q3),q4⟩}
 have h3:(∃ i,i<k/\yT es i=some y.1/\L' i)↔∃ i,i<k/\yT es i=some y.1/\L i:=by simpa using h2 (fun _=>True)
 have h4:y=(d,x)->¬∃ i,i<k/\yT es i=some y.1/\L i:=by rintro rfl ⟨j,q1,q2,q3⟩;exact hno j q1 q2 q3
 unfold EMem;rw[h1,h2,h3];constructor;{rintro (⟨q1|q1|q1,q2⟩|q);{exact .inl (.inl ⟨.inl q1,q2⟩)};{exact .inl (.inl ⟨.inr q1,q2⟩)};{exact .inr q1};{exact .inl (.inr q)}};{rintro ((⟨q1|q1,q2⟩|q)|q);{exact .inl ⟨.inl q1,q2⟩};{exact .inl ⟨.inr (.inl q1),q2⟩};{exact .inr q};{exact .inl ⟨.inr (.inr q),h4 q⟩}}
theorem EMem.eff {i:Nat}{o:Oper}{n:Nat}(hinj:∀ {i j n},yT es i=some n->yT es j=some n->i=j)(ho:ops[i]?=some o)(hik:i<k)(hm:wY o=none)(he:yT es i=some n)(hL':∀ j,L' j↔L j\/j=i)(y:Nat×Obj'):EMem ops es k O0 X L' y↔(y.1=n/\y.2=X i)\/(y.1≠n/\EMem ops es k O0 X L y):=by
 have h1:(∃ j oj,j<k/\L' j/\ops[j]?=some oj/\wY oj=some y)↔∃ j oj,j<k/\L j/\ops[j]?=some oj/\wY oj=some y:=by constructor;{rintro⟨j,oj,q1,q2,q3,q4⟩;rcases (hL' j).1 q2 with q|q;{exact⟨j,oj,q1,q,q3,q4⟩};{subst q;rw[ho] at q3;cases q3;rw[hm] at q4;cases q4}};{rintro⟨j,oj,q1,q2,q3,q4⟩;exact⟨j,oj,q1,(hL' j).2 (.inl q2),q3,q4⟩}
 by_cases hy:y.1=n;{have h2:∀ j,yT es j=some y.1->j=i:=fun j hj=>hinj (by rw[hy] at hj;exact hj) he;unfold EMem;constructor;{rintro (⟨_,q⟩|⟨j,q1,q2,q3,q4⟩);{exact absurd ⟨i,hik,by rw[hy];exact he,(hL' i).2 (.inr rfl)⟩ q};{have:=h2 j q2;subst this;exact .inl ⟨hy,q4.symm⟩}};{rintro (⟨_,q⟩|⟨q,_⟩);{exact .inr ⟨i,hik,by rw[hy];exact he,(hL' i).2 (.inr rfl),q.symm⟩};{exact absurd hy q}}}
 ·have h2:∀ P:Nat->Prop,(∃ j,j<k/\yT es j=some y.1/\L' j/\P j)↔∃ j,j<k/\yT es j=some y.1/\L j/\P j:=by intro P;constructor;{rintro⟨j,q1,q2,q3,q4⟩;rcases (hL' j).1 q3 with q|q;{exact⟨j,q1,q2,q,q4⟩};{subst q;rw[he] at q2;cases q2;exact absurd rfl hy}};{rintro⟨j,q1,q2,q3,q4⟩;exact⟨j,q1,q2,(hL' j).2 (.inl q3),q4⟩}
  (have h3:(∃ i,i<k/\yT es i=some y.1/\L' i)↔∃ i,i<k/\yT es i=some y.1/\L i:=by simpa using h2 (fun _=>True));unfold EMem
  rw[h1,h2,h3];constructor;{intro q;exact .inr ⟨hy,q⟩};{rintro (⟨q,_⟩|⟨_,q⟩);{exact absurd q hy};{exact q}}
end
theorem zZA {ops:List Oper}{k:Nat}(D:DrawOk ops k){Q:Exit->Act->World->Prop}{K:PS->Prop}(hdst:∀ o,o∈ops->rX N o=true)(hk:∀ ps' a' w' S' β',K ps'->Sim w0 S0 K0 N (zA ps'.tmps) ps'.objs a' w' S' β'->Q .normal a' w') {T0 T2:List (Nat×PV)} {O0 O2:List (Nat×Obj')} {pvs:List PV} {es:List (Nat×Nat)} {ms lim:List (Nat×Obj')} {X:Nat->Obj'} {Ob:Nat->List (Nat×Obj')} (hkl:k<=ops.length) (hlen:pvs.length=(ops.take k).length) (hK:qY ops (ops.drop k) ⟨T2,O2⟩ K) (ht2:zA T2=v8 (ops.take k) pvs (zA T0)) (hO2:∀ y,y∈O2↔EMem ops es k O0 X (fun j=>j<k) y) (hnd2:(O2.map Prod.fst).Nodup) (hms:∀ x,x∈ms↔∃ i o,i<k/\ops[i]?=some o/\wY o=some x) (hfr:∀ n x,(n,x)∈ms->n<1000000/\(∀ t,xV n (zA T0 t)=true)/\(∀ m o,(m,o)∈O0->m≠n/\f6 n o)/\(∀ t,t≠n->xV n (zA T2 t)=true)) (hlim:∀ n o,yA lim n=some o->(n,o)∈O0/\∀ i,yT es i≠some n) (hinj:∀ {i j n},yT es i=some n->yT es j=some n->i=j) (hmkE:∀ i o x,ops[i]?=some o->wY o=some x->yT es i=none) (hanc:∀ i n j oj x,i<k->yT es i=some n->j<k->ops[j]?=some oj->wY oj=some (n,x)->((anc ops).getD i 0).testBit j=true) (hOb:∀ i,i<k->∀ y,y∈Ob i↔EMem ops es k O0 X (fun j=>j<i) y) (hst:∀ i o pv,(ops.take k)[i]?=some o->pvs[i]?=some pv->EfStep ops es ms lim i o (v8 ((ops.take k).take i) (pvs.take i) (zA T0)) pv (Ob i) (Ob (i+1))) (hX:∀ i n x,i<k->yT es i=some n->(n,x)∈Ob (i+1)->X i=x) (hXin:∀ i n x0 x,yA (Ob i) n=some x0->(n,x)∈setO (Ob i) n x):∀ (fuel:Nat) (L:Array Bool) {a:Act} {w:World} {S:Nat->Nat->Prop} {β:Bm} {T:List (Nat×PV)} {objs':List (Nat×Obj')},L.size=ops.length->(∀ j,j<ops.length->k<=j->¬Lst L j)->(∀ i o,ops[i]?=some o->Lst L i->a5 (Lst L) o)->unl L ops.length<=fuel ->Sim w0 S0 K0 N (zA T) objs' a w S β->(∀ y,y∈objs'↔EMem ops es k O0 X (Lst L) y)->At ops k pvs (zA T0) (Lst L) (zA T)->wpAny Pg .any ops.toArray Q fuel L a w:=by
 have hpl:k<=pvs.length:=by rw[hlen];simp;omega
 have htx:At ops k pvs (zA T0) (fun j=>j<k) (zA T2):=by
  (have htx:=At.text (τ0:=zA T0) D hlen k (zV _);have e1:(ops.take k).take k=ops.take k:=by rw[tE,zK9]);have e2:pvs.take k=pvs:=yN (by rw[hlen];simp;omega)
  rw[e1,e2,<-ht2] at htx;exact htx
 have hend:∀ {T:List (Nat×PV)} {L:Array Bool},(∀ j,j<k->Lst L j)->At ops k pvs (zA T0) (Lst L) (zA T)->zA T=zA T2:=by intro T L hfull hat;funext t;exact hat.same D hpl htx fun j o hj ho hd=>.inl ⟨hfull j hj,hj⟩
 have hEx:∀ {L:Array Bool},(∀ j,j<k->Lst L j)->∀ y,EMem ops es k O0 X (Lst L) y↔EMem ops es k O0 X (fun j=>j<k) y:=by
  (intro L hfull y;have e1:∀ P:Nat->Prop,(∃ j,j<k/\yT es j=some y.1/\Lst L j/\P j)↔∃ j,j<k/\yT es j=some y.1/\j<k/\P j:=fun P=>⟨fun⟨j,q1,q2,_,q4⟩=>⟨j,q1,q2,q1,q4⟩,fun⟨j,q1,q2,_,q4⟩=>⟨j,q1,q2,hfull j q1,q4⟩⟩;have e2:(∃ j oj,j<k/\Lst L j/\ops[j]?=some oj/\wY oj=some y)↔∃ j oj,j<k/\j<k/\ops[j]?=some oj/\wY oj=some y:=⟨fun⟨j,oj,q1,_,q3⟩=>⟨j,oj,q1,q1,q3⟩,fun⟨j,oj,q1,_,q3⟩=>⟨j,oj,q1,hfull j q1,q3⟩⟩;have e3:(∃ i,i<k/\yT es i=some y.1/\Lst L i)↔∃ i,i<k/\yT es i=some y.1/\i<k:=by simpa using e1 (fun _=>True));unfold EMem
  rw[e1,e2,e3]
 intro fuel;induction fuel with
 |zero =>
  (intro L a w S β T objs' hsz hge hcl hun h hin hat;have hall:=tK (Nat.le_zero.1 hun);have hall':∀ j,j<ops.length->Lst L j:=fun j hj=>by have h1:=hall j hj;rw[xM oM true false] at h1;exact h1);have hkn:ops.length<=k:=by rcases wE k ops.length with h'|h';{exact absurd (hall' k h') (hge k h' (zV _))};{exact h'}
  have hfull:∀ j,j<k->Lst L j:=fun j hj=>hall' j oM;refine zES D hdst hk 0 k L (ps:=⟨T2,O2⟩) (S:=S) (β:=β) (zV _) hkl hsz (fun j hj=>⟨fun _=>by omega,fun _=>hall' j hj⟩) oM ?_ hK;show Sim w0 S0 K0 N (zA T2) O2 a w S β;rw[<-hend hfull hat];exact h.perm (fun x=>by rw[hO2 x,hin x,hEx hfull x]) hnd2
 |succ fuel ih =>
  intro L a w S β T objs' hsz hge hcl hun h hin hat;by_cases hfull:∀ j,j<k->Lst L j
  ·refine zES D hdst hk (fuel+1) k L (ps:=⟨T2,O2⟩) (S:=S) (β:=β) (zV _) hkl hsz (fun j hj=>⟨fun hl=>?_,fun hj'=>hfull j hj'⟩) ?_ ?_ hK;{rcases wE j k with h'|h';{exact h'};{exact absurd hl (hge j hj h')}}
   ·have cnt:∀ n,k<=n->n<=ops.length->n<=k+unl L n:=by
     intro n;induction n with
     |zero=>intro _ _;omega| succ n ihn =>
      intro hkn hn;simp only[unl];by_cases hk0:k=n+1;{omega}
      ·(have:=ihn oM oM;have hnl:=hge n oM oM;have:L.getD n true≠true:=by rw[xM oM true false];exact hnl);rw[if_neg this]
       omega
    have:=cnt ops.length hkl (zV _);omega
   {show Sim w0 S0 K0 N (zA T2) O2 a w S β;rw[<-hend hfull hat];exact h.perm (fun x=>by rw[hO2 x,hin x,hEx hfull x]) hnd2}
  ·have hun0:∃ j,j<k/\¬Lst L j/\∀ i,i<j->Lst L i:=by
    have:∀ n,n<=k->(∀ i,i<n->Lst L i)\/∃ j,j<k/\¬Lst L j/\∀ i,i<j->Lst L i:=by
     intro n;induction n with
     |zero=>intro _;exact .inl fun i h=>by omega| succ n ihn =>
      intro hn;rcases ihn oM with h1|h1;{by_cases hx:Lst L n;{refine .inl fun i hi=>?_;by_cases e:i=n;{exact e ▸ hx};{exact h1 i oM}};{exact .inr ⟨n,by omega,hx,h1⟩}};{exact .inr h1}
    rcases this k (zV _) with h1|h1;{exact absurd h1 hfull};{exact h1}
   obtain⟨j0,hj0,hnj0,hbelow⟩:=hun0;refine⟨fun hr=>?_,fun i hi=>?_⟩
   ·(exfalso;have hlt:j0<ops.length:=by omega);have hin:j0∈Region.ready .any ops.toArray L:=by
     refine mem_ready.2 ⟨?_,ops[j0],by simp[hlt],fun e he hb=>?_⟩
     ·rw[xM oM true false];cases hx:L.getD j0 false with
      |false=>rfl| true=>exact absurd hx hnj0
     {exact hbelow e.on (D.back j0 _ (wN hlt) e (by simpa using he) hb)}
    rw[hr] at hin;cases hin
   ·(obtain⟨h1,o,h2,h3⟩:=mem_ready.1 hi;have ho:ops[i]?=some o:=by simpa using h2);have hlt:i<ops.length:=(v4.1 ho).1
    have hE:a5 (Lst L) o:=fun e he hb=>h3 e (by simpa using he) hb;have hik:i<k:=by rcases wE i k with h'|h';{exact h'};{exact absurd (xY hcl ho hE (D.rest i j0 hlt h' oM)) hnj0}
    (have hp:pvs[i]?=some pvs[i]:=wN oM;have hdo:=aP (hdst o (zZ ho));have hsize:i<L.size:=by omega);have hnl:¬Lst L i:=fun hl=>by rw[xM oM true false] at h1;unfold Lst at hl;rw[h1] at hl;exact absurd hl (by decide)
    (have hagree:∀ t,t∈jI ops o->v8 ((ops.take k).take i) (pvs.take i) (zA T0) t=zA T t:=fun t ht=>At.same D hpl (At.text D hlen i oM) hat fun j oj hj hoj hd=>by rcases D.look i o t j oj hik hj ho hoj ht hd with⟨q1,q2⟩|⟨q1,q2⟩;{exact .inl ⟨q1,xY hcl ho hE q2⟩};{refine .inr ⟨by omega,fun hl=>?_⟩;have:=xY hcl hoj (hcl j oj hoj hl) q2;rw[xM oM true false] at h1;exact absurd this (by unfold Lst;rw[h1];decide)});have hLs:∀ j,Lst (L.setIfInBounds i true) j↔Lst L j\/j=i:=vA hsize;have hnext:∀ {a':Act} {w':World} {S':Nat->Nat->Prop} {β':Bm} {T':List (Nat×PV)} {objs3:List (Nat×Obj')},zA T'=upd (zA T) o.dst pvs[i]->Sim w0 S0 K0 N (zA T') objs3 a' w' S' β'->(∀ y,y∈objs3↔EMem ops es k O0 X (Lst (L.setIfInBounds i true)) y)->wpAny Pg .any ops.toArray Q fuel (L.setIfInBounds i true) a' w':=by intro a' w' S' β' T' objs3 hT hsim g1;refine ih (L.setIfInBounds i true) (by simpa using hsz) (fun j hj hkj hl=>?_) (fun j oj hoj hl=>?_) ?_ hsim g1 (by rw[hT];exact hat.step D hik ho hp fun j=>vA hsize j);{rcases (vA hsize j).1 hl with hl|hl;{exact hge j hj hkj hl};{omega}};{intro e he hb;rw[vA hsize];rcases (vA hsize j).1 hl with hl|hl;{exact .inl (hcl j oj hoj hl e he hb)};{subst hl;rw[ho] at hoj;cases hoj;exact .inl (hE e he hb)}};{have:=iW h1 hlt;omega}
    cases hst i o pvs[i] (by rw[wG hik];exact ho) hp with
    | @mk d x hmk hpv hO =>
     obtain⟨hgn,hod,t0,hop0,hno0,hx0⟩:=jH hmk;have hinms:(d,x)∈ms:=(hms _).2 ⟨i,o,hik,ho,hmk⟩;obtain⟨f1,f2,f3,f4⟩:=hfr d x hinms;have uniq:∀ j oj,j<k->ops[j]?=some oj->oj.dst=some d->j=i:=fun j oj hj hoj hd' =>
      bR D.dst (by rw[wG hj];exact hoj) (by rw[wG hik];exact ho) hd' hod
     (have hnoE:∀ j,j<k->yT es j=some d->¬Lst L j:=fun j hj hje hjl=>by have hjo:ops[j]?=some ops[j]:=wN oM;exact hnl (xY hcl hjo (hcl j _ hjo hjl) (hanc j d i o x hj hje hik ho hmk)));refine d8 ho (.inl ⟨by simp[Region.wanted,hgn],zW5 hmk (hdst o (zZ ho)) h f1 (fun t=>?_) (fun {m y} hmy=>?_) fun a' w' β' hsim=>?_⟩)
     {by_cases hw:∃ j oj,j<k/\Lst L j/\ops[j]?=some oj/\oj.dst=some t;{obtain⟨j,oj,q1,q2,q3,q4⟩:=hw;have hpj:pvs[j]?=some pvs[j]:=wN oM;rw[hat.hit j oj t _ q1 q2 q3 hpj q4,<-htx.hit j oj t _ q1 q1 q3 hpj q4];refine f4 t fun e=>?_;subst e;exact hnl (uniq j oj q1 q3 q4 ▸ q2)};{rw[hat.miss t fun j oj q1 q2 q3 q4=>hw ⟨j,oj,q1,q2,q3,q4⟩];exact f2 t}}
     ·rcases (hin _).1 hmy with⟨q|⟨j,oj,q1,q2,q3,q4⟩,_⟩|⟨j,q1,q2,q3,q4⟩;{exact f3 m y q};{obtain⟨_,hodj,t1,_,hno1,hy1⟩:=jH q4;refine⟨fun e=>?_,?_⟩;{subst e;exact hnl (uniq j oj q1 q3 hodj ▸ q2)};{rw[hy1];exact oV hno1}}
      ·refine⟨fun e=>?_,?_⟩;{simp only at q2;rw[e] at q2;exact hnoE j q1 q2 q3}
       ·have hjo:ops[j]?=some ops[j]:=wN oM;have hpj:pvs[j]?=some pvs[j]:=wN oM;cases hst j ops[j] pvs[j] (by rw[wG q1];exact hjo) hpj with
        |mk hmk' _ _=>rw[hmkE j _ _ hjo hmk'] at q2;cases q2
        |pure _ he' _ _=>rw[he'] at q2;cases q2
        |eff hm' he' h0' hfree' hg' hgo' hO' =>
         rw[he'] at q2;cases q2;have:=hX j _ _ q1 he' (by rw[hO'];exact hXin _ _ _ _ h0');have q4':X j=y:=q4;rw[<-q4',this];exact hfree' d x hinms
     {have hT:zA (put ⟨T,[]⟩ o.dst pvs[i]).tmps=upd (zA T) o.dst pvs[i]:=xP _ _ _;rw[<-hpv,<-hT] at hsim;refine hnext hT hsim fun y=>?_;rw[wQ,kE,EMem.mk ho hik hmk (hmkE i o _ ho hmk) hnoE hLs y,hin y]}
    | @eff n x x0 hm he h0 hfree hg hgo hO =>
     have hxX:X i=x:=hX i n x hik he (by rw[hO];exact hXin _ _ _ _ h0);have hne:∀ {y:Nat×Obj'} {M:Nat->Prop},y.1=n->¬M i->EMem ops es k O0 X M y->(y∈O0\/∃ j oj,j<k/\M j/\ops[j]?=some oj/\wY oj=some y):=fun {y M} hy hMi hE=>by rcases hE with⟨q,_⟩|⟨j,q1,q2,q3,q4⟩;{exact q};{rw[hy] at q2;have:=hinj q2 he;subst this;exact absurd q3 hMi}
     (have hx0:=hne (y:=(n,x0)) rfl oM ((hOb i hik _).1 (xH h0));have hnoL:¬∃ j,j<k/\yT es j=some n/\Lst L j:=fun⟨j,q1,q2,q3⟩=>hnl (hinj q2 he ▸ q3);have hin0:(n,x0)∈objs':=by rw[hin];refine .inl ⟨?_,hnoL⟩;rcases hx0 with q|⟨j,oj,q1,q2,q3,q4⟩;{exact .inl q};{exact .inr ⟨j,oj,q1,xY hcl ho hE (hanc i n j oj x0 hik he q1 q3 q4),q3,q4⟩});have hget:yA objs' n=some x0:=vY h.obj.nd hin0;have hs0:=hgo T objs' (fun t ht=>(hagree t ht).symm) hget;have hnin:n∈objs'.map Prod.fst:=yS.2 ⟨_,hin0,rfl⟩;refine d8 ho (.inl ⟨by simp[Region.wanted,hg],dV (ps:=⟨T,objs'⟩) h hs0 hdo fun ps' a' w' S' β' hK hsim=>?_⟩);obtain⟨hK1,hK2⟩:=hK;rw[hK2] at hsim;refine hnext hK1 hsim fun y=>?_;obtain⟨y1,y2⟩:=y;rw[eO h.obj.nd hnin,EMem.eff hinj ho hik hm he hLs,hin,hxX]
    |pure hm he hs1 hO =>
     have hgo:∀ n o,yA lim n=some o->yA objs' n=some o:=fun n o hg=>by obtain⟨q1,q2⟩:=hlim n o hg;exact vY h.obj.nd ((hin _).2 (.inl ⟨.inl q1,fun⟨j,_,q3,_⟩=>q2 j q3⟩))
     (have hs2:vM true lim ops o (zA T) pvs[i]:=a7 hagree hs1;have hfin:∀ y,y∈objs'↔EMem ops es k O0 X (Lst (L.setIfInBounds i true)) y:=fun y=>by rw[EMem.pure ho hm he hLs y,hin y]);refine d8 ho ?_
     rcases j2 h.tmp hs2 with⟨hw,hA⟩|⟨hw,hB⟩;{refine .inl ⟨hw,zAW h (oX hgo hA) fun pv w' S' β' v hpv l hr=>?_⟩;refine hnext (S':=S') (β':=β') (T':=(put ⟨T,[]⟩ o.dst pvs[i]).tmps) (xP _ _ _) ?_ hfin;rw[xP];exact l.put o.dst hdo (hr.le _ hpv)};{refine .inr ⟨hw,hnext (S':=S) (β':=β) (T':=(put ⟨T,[]⟩ o.dst pvs[i]).tmps) (xP _ _ _) ?_ hfin⟩;rw[xP];refine h.put o.dst hdo ?_;rw[hB];exact nA _ _ _}
theorem i6 {P:List Nat}{w:World}{S:Nat->Nat->Prop}{β:Bm}{v:Value}{pv:PV}(h:Rep w S β v pv):Rep w S β v (scA P pv):=by
 cases pv with
 |agg cs=>exact wJ _| tup cs=>exact wJ _| fn f cs=>exact wJ _| ptr m off=>simp only[scA];cases z8 m P <;> first|exact h|exact wJ _
 |aptr m s i off=>simp only[scA];cases z8 m P <;> first|exact h|exact wJ _
 |osl m s i len=>simp only[scA];cases z8 m P <;> first|exact h|exact wJ _
 |_=>exact h
theorem zG9 {P:List Nat}{w:World}{S:Nat->Nat->Prop}{β:Bm}{v:Value}{pv:PV}(h:Rep w S β v pv):Rep w S β v (scB P pv):=by
 cases pv with
 |agg cs =>
  obtain⟨vs,rfl,h1,h2⟩:=kJ h;exact .agg (by rw[zL];exact h1) fun j hj=>by rw[zL] at hj;rw[yH _ rfl];exact i6 (h2 j hj)
 |tup cs =>
  obtain⟨vs,rfl,h1,h2⟩:=fT h;exact .tup (by rw[zL];exact h1) fun j hj=>by rw[zL] at hj;rw[yH _ rfl];exact i6 (h2 j hj)
 |fn f cs =>
  obtain⟨vs,rfl,h1,h2⟩:=fV h;exact .fn (by rw[zL];exact h1) fun j hj=>by rw[zL] at hj;rw[yH _ rfl];exact i6 (h2 j hj)
 |_=>first|exact i6 (P:=P) h|exact h
theorem m7 {P:List Nat}{w:World}{S:Nat->Nat->Prop}{β:Bm}{v:Value}{pv:PV}(h:Rep w S β v pv):Rep w S β v (scC P pv):=by
 cases pv with
 |agg cs =>
  obtain⟨vs,rfl,h1,h2⟩:=kJ h;exact .agg (by rw[zL];exact h1) fun j hj=>by rw[zL] at hj;rw[yH _ rfl];exact zG9 (h2 j hj)
 |tup cs =>
  obtain⟨vs,rfl,h1,h2⟩:=fT h;exact .tup (by rw[zL];exact h1) fun j hj=>by rw[zL] at hj;rw[yH _ rfl];exact zG9 (h2 j hj)
 |fn f cs =>
  obtain⟨vs,rfl,h1,h2⟩:=fV h;exact .fn (by rw[zL];exact h1) fun j hj=>by rw[zL] at hj;rw[yH _ rfl];exact zG9 (h2 j hj)
 |_=>exact i6 (P:=P) h
theorem bO (f g h:PV->PV)(H:∀ v,f (g v)=h v):∀ l:List PV,vL f (vL g l)=vL h l
 |[]=>rfl| v::r=>by simp only[vL,H,bO f g h H r]
theorem pJ (f g:PV->PV)(H:∀ v,f v=g v):∀ l:List PV,vL f l=vL g l
 |[]=>rfl| v::r=>by simp only[vL,H,pJ f g H r]
theorem zJM (m n:Nat):nqb m n=nqb n m:=by unfold nqb;exact Bool.beq_comm
theorem zDJ {P P':List Nat}(H:∀ m,z8 m P=true->z8 m P'=true)(v:PV):scA P' (scA P v)=scA P' v:=by
 have key:∀ {m:Nat} {x:PV},(∀ y,scA P' y=scA P' y)->(z8 m P'=true->scA P' x=.any)->scA P' (match z8 m P with|true=>PV.any|false=>x)=scA P' x:=by
  intro m x _ hx;cases h:z8 m P with
  |true=>rw[hx (H m h)];rfl
  |false=>rfl
 cases v with
 |ptr m off=>exact key (fun _=>rfl) (fun h=>by simp only[scA,h])| aptr m s i off=>exact key (fun _=>rfl) (fun h=>by simp only[scA,h])| osl m s i len=>exact key (fun _=>rfl) (fun h=>by simp only[scA,h])| _=>rfl
def n5:PV->Bool
 |.agg _=>true| .tup _=>true| .fn _ _=>true| _=>false
theorem lS {P:List Nat}{v:PV}(h:n5 v=false):scB P v=scA P v:=by cases v <;> first|rfl|cases h
theorem lQ {P:List Nat}{v:PV}(h:n5 v=false):scC P v=scA P v:=by cases v <;> first|rfl|cases h
theorem zS3 {n:Nat}{v:PV}(h:n5 v=false):sc1 n v=sc0 n v:=by cases v <;> first|rfl|cases h
theorem zS1 {n:Nat}{v:PV}(h:n5 v=false):scr n v=sc0 n v:=by cases v <;> first|rfl|cases h
theorem zYP {n:Nat}{v:PV}(h:n5 v=false):rf1 n v=rf0 n v:=by cases v <;> first|rfl|cases h
theorem zYO {n:Nat}{v:PV}(h:n5 v=false):xV n v=rf0 n v:=by cases v <;> first|rfl|cases h
theorem oN (P:List Nat)(v:PV):n5 (scA P v)=false:=by
 cases v with
 |ptr m off=>simp only[scA];cases z8 m P <;> rfl
 |aptr m s i off=>simp only[scA];cases z8 m P <;> rfl
 |osl m s i len=>simp only[scA];cases z8 m P <;> rfl
 |_=>rfl
theorem zKR (n:Nat)(v:PV):n5 (sc0 n v)=false:=by
 cases v with
 |ptr m off=>simp only[sc0];cases nqb m n <;> rfl
 |aptr m s i off=>simp only[sc0];cases nqb m n <;> rfl
 |osl m s i len=>simp only[sc0];cases nqb m n <;> rfl
 |_=>rfl
theorem zRD {P P':List Nat}(H:∀ m,z8 m P=true->z8 m P'=true)(v:PV):scB P' (scB P v)=scB P' v:=by
 cases hv:n5 v with
 |false=>rw[lS hv,lS (oN P v),zDJ H,lS hv]| true=>cases v <;> first|(cases hv;done)|(simp only[scB];rw[bO _ _ _ (zDJ H)])
theorem zJD {P P':List Nat}(H:∀ m,z8 m P=true->z8 m P'=true)(v:PV):scC P' (scC P v)=scC P' v:=by
 cases hv:n5 v with
 |false=>rw[lQ hv,lQ (oN P v),zDJ H,lQ hv]| true=>cases v <;> first|(cases hv;done)|(simp only[scC];rw[bO _ _ _ (zRD H)])
theorem zHB (n:Nat)(P:List Nat)(v:PV):sc0 n (scA P v)=scA (n::P) v:=by
 have e:∀ m,z8 m (n::P)=(nqb m n || z8 m P):=fun m=>by show (nqb n m || z8 m P)=_;rw[zJM]
 cases v with
 |ptr m off=>simp only[scA,e];cases h1:z8 m P <;> cases h2:nqb m n <;> simp[sc0,h2]
 |aptr m s i off=>simp only[scA,e];cases h1:z8 m P <;> cases h2:nqb m n <;> simp[sc0,h2]
 |osl m s i len=>simp only[scA,e];cases h1:z8 m P <;> cases h2:nqb m n <;> simp[sc0,h2]
 |_=>rfl
theorem zU4 (n:Nat)(P:List Nat)(v:PV):sc1 n (scB P v)=scB (n::P) v:=by
 cases hv:n5 v with
 |false=>rw[lS hv,zS3 (oN P v),zHB,lS hv]| true=>cases v <;> first|(cases hv;done)|(simp only[scB,sc1];rw[bO _ _ _ (zHB n P)])
theorem zNU (n:Nat)(P:List Nat)(v:PV):scr n (scC P v)=scC (n::P) v:=by
 cases hv:n5 v with
 |false=>rw[lQ hv,zS1 (oN P v),zHB,lQ hv]| true=>cases v <;> first|(cases hv;done)|(simp only[scC,scr];rw[bO _ _ _ (zU4 n P)])
theorem o3 {P P':List Nat}(H:∀ m,z8 m P=z8 m P')(v:PV):scA P v=scA P' v:=by
 cases v with
 |ptr m off=>simp only[scA,H]| aptr m s i off=>simp only[scA,H]| osl m s i len=>simp only[scA,H]| _=>rfl
theorem zPM {P P':List Nat}(H:∀ m,z8 m P=z8 m P')(v:PV):scB P v=scB P' v:=by
 cases hv:n5 v with
 |false=>rw[lS hv,lS hv,o3 H]| true=>cases v <;> first|(cases hv;done)|(simp only[scB];rw[pJ _ _ (o3 H)])
theorem dS {P P':List Nat}(H:∀ m,z8 m P=z8 m P')(v:PV):scC P v=scC P' v:=by
 cases hv:n5 v with
 |false=>rw[lQ hv,lQ hv,o3 H]| true=>cases v <;> first|(cases hv;done)|(simp only[scC];rw[pJ _ _ (zPM H)])
theorem zMW (n:Nat)(v:PV):rf0 n (sc0 n v)=true:=by
 cases v with
 |ptr m off=>simp only[sc0];cases h:nqb m n <;> simp[rf0,h]
 |aptr m s i off=>simp only[sc0];cases h:nqb m n <;> simp[rf0,h]
 |osl m s i len=>simp only[sc0];cases h:nqb m n <;> simp[rf0,h]
 |_=>rfl
theorem nY {f:PV->Bool}{g:PV->PV}(H:∀ v,f (g v)=true):∀ l:List PV,yV f (vL g l)=true
 |[]=>rfl| v::r=>by simp only[vL,yV,H,nY H r];rfl
theorem zYN (n:Nat)(v:PV):rf1 n (sc1 n v)=true:=by
 cases hv:n5 v with
 |false=>rw[zS3 hv,zYP (zKR n v),zMW]| true=>cases v <;> first|(cases hv;done)|exact nY (zMW n) _
theorem zMV (n:Nat)(v:PV):xV n (scr n v)=true:=by
 cases hv:n5 v with
 |false=>rw[zS1 hv,zYO (zKR n v),zMW]| true=>cases v <;> first|(cases hv;done)|exact nY (zYN n) _
theorem zL0 {n:Nat}(hn:n<1000000)(T:List (Nat×PV))(O:List (Nat×Obj')):yJ n ⟨wX (scr n) T,y5 (scr n) (xT O n)⟩=true:=by
 have h1:∀ T:List (Nat×PV),rI n (wX (scr n) T)=true:=by
  intro T;induction T with
  |nil=>rfl| cons a r ih=>obtain⟨t,v⟩:=a;simp only[wX,rI,zMV,ih];rfl
 have h2:x5 n (y5 (scr n) (xT O n))=true:=zAY hn fun m o hm=>by
  obtain⟨o',q1,q2⟩:=wT _ hm;refine⟨(wU q1).2,?_⟩;cases o' with
  |box cs=>subst q2;exact nY (zMV n) cs| arr s e=>subst q2;trivial| log s e=>subst q2;trivial| lent s e=>subst q2;trivial| mat s r q=>subst q2;exact eD (zMV n) q
 unfold yJ;rw[h1,h2];rfl
def scO (P:List Nat):Obj'->Obj':=x9 (scC P)
theorem bE (P:List Nat){l:List (Nat×Obj')}{y:Nat×Obj'}:y∈y5 (scC P) l↔∃ o,(y.1,o)∈l/\y.2=scO P o:=by
 constructor;{intro h;exact wT (n:=y.1) (o:=y.2) _ h}
 ·(rintro⟨o,h1,h2⟩;have:=rP (scC P) h1;have e:y=(y.1,x9 (scC P) o):=by rw[<-show scO P o=x9 (scC P) o from rfl,<-h2]);rw[e]
  exact this
theorem zS2 {P:List Nat}{w:World}{S:Nat->Nat->Prop}{β:Bm}{n:Nat}{o:Obj'}(h:ObjAt w S β n o):ObjAt w S β n (scO P o):=ObjAt.map rfl (fun _ _ hx=>m7 hx) h
theorem zNV {P:List Nat}{o:Obj'}{i:Nat}(h:j5 o i):j5 (scO P o) i:=rK h
theorem zF4 (f g h:PV->PV)(H:∀ v,f (g v)=h v):∀ l:List (PV×(Unit->Nat)),gF f (gF g l)=gF h l
 |[]=>rfl| (v,k)::r=>by simp only[gF,H,zF4 f g h H r]
theorem zB9 (f g:PV->PV)(H:∀ v,f v=g v):∀ l:List (PV×(Unit->Nat)),gF f l=gF g l
 |[]=>rfl| (v,k)::r=>by simp only[gF,H,zB9 f g H r]
theorem zA2 (f g h:PV->PV)(H:∀ v,f (g v)=h v)(o:Obj'):x9 f (x9 g o)=x9 h o:=by
 cases o with
 |box cs=>simp only[x9];rw[bO _ _ _ H]| mat s r q=>simp only[x9];rw[zF4 _ _ _ H]| _=>rfl
theorem zA3 (f g:PV->PV)(H:∀ v,f v=g v)(o:Obj'):x9 f o=x9 g o:=by
 cases o with
 |box cs=>simp only[x9];rw[pJ _ _ H]| mat s r q=>simp only[x9];rw[zB9 _ _ H]| _=>rfl
theorem zJC {P P':List Nat}(H:∀ m,z8 m P=true->z8 m P'=true)(o:Obj'):scO P' (scO P o)=scO P' o:=zA2 _ _ _ (zJD H) o
theorem zLO {P P':List Nat}(H:∀ m,z8 m P=z8 m P'):scO P=scO P':=funext fun o=>zA3 _ _ (dS H) o
theorem rE {P P':List Nat}(H:∀ m,z8 m P=z8 m P')(o:Obj'):scO P o=scO P' o:=zA3 _ _ (dS H) o
theorem Sim.weak {τ τ':Nat->PV}{objs objs':List (Nat×Obj')}{a:Act}{w:World}{S:Nat->Nat->Prop}{β:Bm}(h:Sim w0 S0 K0 N τ objs a w S β)(hτ:∀ t v,Rep w S β v (τ t)->Rep w S β v (τ' t))(hnd:(objs'.map Prod.fst).Nodup) (ho:∀ n o',(n,o')∈objs'->∃ o,(n,o)∈objs/\(ObjAt w S β n o->ObjAt w S β n o')/\(∀ i,j5 o i->j5 o' i)/\∀ b,Own β n o' b->Own β n o b):Sim w0 S0 K0 N τ' objs' a w S β where
 dfr:=h.dfr
 sz:=h.sz
 ld:=h.ld
 tmp t:=hτ t _ (h.tmp t)
 obj:=⟨hnd,fun n o hm=>by obtain⟨o1,q1,q2,_⟩:=ho n o hm;exact q2 (h.obj.at_ n o1 q1),
  fun n o b hm hβ=>by obtain⟨o1,q1,_,q3,q4⟩:=ho n o hm;exact⟨fun i hS=>q3 i ((h.obj.un n o1 b q1 (q4 b hβ)).1 i hS),(h.obj.un n o1 b q1 (q4 b hβ)).2⟩,
  fun n o m o' b hm hm' hβ hβ'=>by obtain⟨x,q1,_,_,g1⟩:=ho n o hm;obtain⟨y,q2,_,_,g2⟩:=ho m o' hm';exact h.obj.inj _ _ _ _ b q1 q2 (g1 b hβ) (g2 b hβ')⟩
 own n o b hm hβ:=by obtain⟨x,q1,_,_,g1⟩:=ho n o hm;exact h.own n x b q1 (g1 b hβ)
 keep n o hm hb:=by obtain⟨x,q1,_⟩:=ho n o hm;exact h.keep n x q1 hb
def PL (B:Nat->Bool):List (Nat×Nat)->List Nat
 |[]=>[]| (e,m)::r=>(match B e with|true=>m::PL B r|false=>PL B r)
theorem fH:∀ {l:List Nat} {n:Nat},z8 n l=true↔n∈l:=fun {l n}=>⟨v7,rL⟩
theorem dH {B:Nat->Bool}{m:Nat}:∀ {es:List (Nat×Nat)},m∈PL B es↔∃ e,(e,m)∈es/\B e=true
 |[]=>by simp[PL]| (e,x)::r=>by
  unfold PL;cases hb:B e with
  |true =>
   simp only[z9,dH (es:=r)];constructor;{rintro (rfl|⟨e',h1,h2⟩);{exact⟨e,.inl rfl,hb⟩};{exact⟨e',.inr h1,h2⟩}};{rintro⟨e',h1|h1,h2⟩;{cases h1;exact .inl rfl};{exact .inr ⟨e',h1,h2⟩}}
  |false =>
   simp only[dH (es:=r),z9];constructor;{rintro⟨e',h1,h2⟩;exact⟨e',.inr h1,h2⟩};{rintro⟨e',h1|h1,h2⟩;{cases h1;rw[hb] at h2;cases h2};{exact⟨e',h1,h2⟩}}
theorem zAM {an:List Nat}{i m:Nat}:∀ {es:List (Nat×Nat)},m∈freeN an i es↔∃ e,(e,m)∈es/\(an.getD e 0).testBit i=false
 |[]=>by simp[freeN]| (e,x)::r=>by
  unfold freeN;cases hb:(an.getD e 0).testBit i with
  |true =>
   simp only[zAM (es:=r),z9];constructor;{rintro⟨e',h1,h2⟩;exact⟨e',.inr h1,h2⟩};{rintro⟨e',h1|h1,h2⟩;{cases h1;rw[hb] at h2;cases h2};{exact⟨e',h1,h2⟩}}
  |false =>
   simp only[z9,zAM (es:=r)];constructor;{rintro (rfl|⟨e',h1,h2⟩);{exact⟨e,.inl rfl,hb⟩};{exact⟨e',.inr h1,h2⟩}};{rintro⟨e',h1|h1,h2⟩;{cases h1;exact .inl rfl};{exact .inr ⟨e',h1,h2⟩}}
theorem qR (P:List Nat):∀ (T:List (Nat×PV)) (t:Nat),zA (bI P T) t=(match z8 t P with|true=>zA T t|false=>scC P (zA T t))
 |[],t=>by cases h:z8 t P <;> simp[bI,zA,scC,scA]
 |(u,v)::r,t=>by
  simp only[bI,zA];cases hu:nqb u t with
  |true=>have:=yM hu;subst this;rfl
  |false=>exact qR P r t
inductive ApStep (ops:List Oper) (es:List (Nat×Nat)) (an:List Nat) (lim:List (Nat×Obj')) (i:Nat) (o:Oper) (τ:Nat->PV) (pv:PV) (O O':List (Nat×Obj')):Prop
 |app {n s o' l' x x0} (he:yT es i=some n) (hd:o.dst=some n) (hg:o.guard=none) (h0:yA O n=some x0) (hpv:pv=.osl n s o' l') (hx0:∀ P,scO P x0=x0) (hx:∀ P,scO P x=x)
   (hfix:∀ t,t∈jI ops o->(∃ a b c,τ t=.osl n a b c)\/∀ P,scC P (τ t)=τ t)
   (hgo:∀ (T':List (Nat×PV)) (O1:List (Nat×Obj')),(∀ t,t∈jI ops o->zA T' t=τ t)->yA O1 n=some x0->yJ n ⟨wX (scr n) T',y5 (scr n) (xT O1 n)⟩=true ->
    cT o ⟨T',O1⟩ (fun p=>zA p.tmps=upd (fun t=>scr n (zA T' t)) (some n) pv/\p.objs=y5 (scr n) (xT O1 n)++[(n,x)])) (hO:O'=setO O n x)
 |pure (he:yT es i=none) (h:vM false (y5 (scC (freeN an i es)) lim) ops o (fun t=>scC (freeN an i es) (τ t)) pv) (hO:O'=O)
theorem eW {v:PV}(h:fB v=true):v=.nil\/v=.emp:=by cases v <;> first|exact .inl rfl|exact .inr rfl|exact absurd h (by simp[fB])
theorem zV5 {ops:List Oper}{o:Oper}{n:Nat}{T:List (Nat×PV)}{O:List (Nat×Obj')}{K:PV->Obj'->Prop}(h:effA o n T O K):∃ pv s o' l' x x0,K pv x/\o.dst=some n/\o.guard=none/\yA O n=some x0/\pv=.osl n s o' l'/\(∀ P,scO P x0=x0)/\(∀ P,scO P x=x) /\ (∀ t,t∈jI ops o->(∃ a b c,zA T t=.osl n a b c)\/∀ P,scC P (zA T t)=zA T t) /\ ∀ (T':List (Nat×PV)) (O1:List (Nat×Obj')),(∀ t,t∈jI ops o->zA T' t=zA T t)->yA O1 n=some x0->yJ n ⟨wX (scr n) T',y5 (scr n) (xT O1 n)⟩=true ->cT o ⟨T',O1⟩ (fun p=>zA p.tmps=upd (fun t=>scr n (zA T' t)) (some n) pv/\p.objs=y5 (scr n) (xT O1 n)++[(n,x)]):=by
 unfold effA at h;cases hg:o.guard with
 |some g=>rw[hg] at h;exact h.elim| none =>
 rw[hg] at h;simp only at h;split at h
 ·rename_i c hop;split at h
  ·rename_i hcl;split at h
   ·rename_i b x t tx d hargs htys hd;split at h
    ·(rename_i hc;simp only[y9] at hc;have hdn:=yM hc.2;subst hdn;obtain⟨s,bb,z,xs,lg,els,h1,h2,h3,h5,hcase⟩:=h.h;have hmk:∀ (e:Unit->List (List D)) (P:List Nat),scO P (fI lg s e)=fI lg s e:=fun e P=>by cases lg <;> rfl);have hlk:∀ u,u∈jI ops o->(b=.tmp u\/x=.tmp u):=fun u hu=>by
      unfold jI at hu;rw[hg] at hu;simp only[kC] at hu;rw[zML] at hu;obtain⟨y,hy1,hy2⟩:=hu;have hy3:y=b\/y=x:=by rw[hop] at hy1;simp only[Op.operands,Call.operands,hcl,zMM,wQ,hargs] at hy1;simpa using hy1
      (have:y=.tmp u:=by cases y <;> simp_all);rcases hy3 with rfl|rfl
      {exact .inl this};{exact .inr this}
     rcases hcase with⟨o',len,h4,h6,h7,h8,h9⟩|⟨h4,h8,h9⟩
     ·refine⟨_,s,_,_,_,_,h9,hd,rfl,h5,rfl,hmk _,hmk _,fun u hu=>?_,fun T' O1 hT hO hfr=>?_⟩;{rcases hlk u hu with e|e;{rw[e] at h4;exact .inl ⟨_,_,_,h4⟩};{rw[e] at h2;rcases h2 with h2|⟨h2,_⟩;{exact .inr fun P=>by rw[show zA T u=_ from h2];rfl};{exact .inr fun P=>by rw[show zA T u=_ from h2];rfl}}}
      ·(have hev:=eS hg hT;have e1:ev (zA T') b=.osl d s o' len:=by rw[hev b (by rw[hop];simp[Op.operands,Call.operands,hcl,hargs])];exact h4);have e2:ev (zA T') x=ev (zA T) x:=hev x (by rw[hop];simp[Op.operands,Call.operands,hcl,hargs])
       unfold cT;simp only[hop,hcl];rw[hargs,htys];simp only[hc.1];refine⟨.inl ⟨⟨T',O1⟩,d,d,s,bb,z,xs,.refl _,hd,h1,.inl (by rw[e2];exact h2),h3,.inr ⟨lg,d,o',len,els,e1,hO,h6,h7,h8,hfr,?_,rfl⟩⟩⟩;funext t;rw[cJ];simp only[upd];split;{rfl};{exact kZ _ (m6 d) _ _}
     ·refine⟨_,s,_,_,_,_,h9,hd,rfl,h5,rfl,hmk _,fun _=>rfl,fun u hu=>?_,fun T' O1 hT hO hfr=>?_⟩;{rcases hlk u hu with e|e;{rw[e] at h4;rcases eW h4 with h4|h4;{exact .inr fun P=>by rw[show zA T u=_ from h4];rfl};{exact .inr fun P=>by rw[show zA T u=_ from h4];rfl}};{rw[e] at h2;rcases h2 with h2|⟨h2,_⟩;{exact .inr fun P=>by rw[show zA T u=_ from h2];rfl};{exact .inr fun P=>by rw[show zA T u=_ from h2];rfl}}}
      ·(have hev:=eS hg hT;have e1:fB (ev (zA T') b)=true:=by rw[hev b (by rw[hop];simp[Op.operands,Call.operands,hcl,hargs])];exact h4);have e2:ev (zA T') x=ev (zA T) x:=hev x (by rw[hop];simp[Op.operands,Call.operands,hcl,hargs])
       have hsc:∀ (y:Operand),(fB (ev (zA T') y)=true\/∃ a,ev (zA T') y=.sl a)->ev (zA (wX (scr d) T')) y=ev (zA T') y:=fun y hy=>by
        cases y with
        |tmp u =>
         have e:ev (zA (wX (scr d) T')) (.tmp u)=scr d (ev (zA T') (.tmp u)):=kZ _ (m6 d) _ _;rw[e];rcases hy with hy|⟨a,hy⟩;{rcases eW hy with hy|hy <;> rw[hy] <;> rfl};{rw[hy];rfl}
        |_=>rfl
       (have e3:fB (ev (zA (wX (scr d) T')) b)=true:=by rw[hsc b (.inl e1)];exact e1);have e4:ev (zA (wX (scr d) T')) x=ev (zA T) x:=by rw[hsc x (by rw[e2];rcases h2 with h2|⟨h2,_⟩ <;> rw[h2] <;> simp[fB]),e2]
       unfold cT;simp only[hop,hcl];rw[hargs,htys];simp only[hc.1];refine⟨.inl ⟨⟨wX (scr d) T',y5 (scr d) (xT O1 d)⟩,d,d,s,bb,z,xs,.drop d,hd,h1,.inl (by rw[e4];exact h2),h3,.inl ⟨e3,h8,hfr,?_,rfl⟩⟩⟩;funext t;rw[cJ];simp only[upd];split;{rfl};{exact kZ _ (m6 d) _ _}
    {exact h.elim}
   {exact h.elim}
  ·rename_i g hcl;split at h
   ·rename_i d hd;split at h
    ·rename_i hc;have hdn:=yM hc;subst hdn;obtain⟨f,caps,hn,cargs,m,k,s,els,els',o',l',h1,h2,h3,h4,hm,hkd,h5,h6,h7,h8⟩:=h.h;have hlk:∀ u,u∈jI ops o->.tmp u∈c.args.toList:=fun u hu=>by
      (unfold jI at hu;rw[hg] at hu;simp only[kC] at hu;rw[zML] at hu;obtain⟨y,hy1,hy2⟩:=hu;have:y=.tmp u:=by cases y <;> simp_all);subst this
      rw[hop] at hy1;simp only[Op.operands,Call.operands,hcl,zMM,wQ] at hy1;rcases hy1 with hy1|hy1;{simp at hy1;subst hy1;cases h2};{exact hy1}
     have hfx:∀ (l:List Operand) (u:Nat),Operand.tmp u∈l->yV (fixP d) (evs (ev (zA T)) l)=true->fixP d (zA T u)=true:=by
      intro l u;induction l with
      |nil=>intro h;simp at h| cons y l ih =>
       intro h q;simp only[evs,yV,y9] at q;rcases z9.1 h with e|h;{subst e;exact q.1};{exact ih h q.2}
     refine⟨_,s,_,_,_,_,h8,hd,rfl,h5,rfl,fun _=>rfl,fun _=>rfl,fun u hu=>?_,fun T' O1 hT hO hfr=>?_⟩
     ·have:=hfx _ u (hlk u hu) h7;generalize zA T u=v at this ⊢;cases v with
      |osl m' a b c =>
       have e:=yM (show nqb m' d=true from this);subst e;exact .inl ⟨_,_,_,rfl⟩
      |agg _=>cases this
      |tup _=>cases this
      |fn _ _=>cases this
      |ptr _ _=>cases this
      |aptr _ _ _ _=>cases this
      |_=>exact .inr fun P=>rfl
     ·(have hev:=eS hg hT;have e1:ev (zA T') g=.fn f caps:=by rw[hev g (by rw[hop];simp[Op.operands,Call.operands,hcl])];exact h1);have e2:evs (ev (zA T')) c.args.toList=evs (ev (zA T)) c.args.toList:=rW fun y hy=>hev y (by rw[hop];simp[Op.operands,Call.operands,hcl];exact .inr (by simpa using hy))
      unfold cT;simp only[hop,hcl];refine⟨⟨T',O1⟩,.refl _,f,caps,e1,.inr ⟨hn,cargs,[],[(m,.arr s els)],_,[],[(k,.arr s els')],by rw[e2];exact h3,h4,⟨⟨by rw[hm];exact hO,rfl⟩,trivial⟩,rfl,rfl,rfl,rfl,?_,h6,rfl,?_,?_⟩⟩;{show (yJ (hn k) (lW hn [(m,.arr s els)] ⟨T',O1⟩)&&true)=true;rw[zMN,hkd];show yJ d ⟨wX (scr (hn m)) T',y5 (scr (hn m)) (xT O1 (hn m))⟩=true;rw[hm];exact hfr};{show nmIn [k] (.osl k s o' l')=true;simp[nmIn,nm0,z8]}
      ·have e3:nE hn [(m,.arr s els)] [] [(k,.arr s els')] ⟨T',O1⟩=⟨wX (scr d) T',y5 (scr d) (xT O1 d)++[(d,.arr s els')]⟩:=by show (⟨wX (scr (hn m)) T',y5 (scr (hn m)) (xT O1 (hn m))++[(hn k,.arr s els')]⟩:PS)=_;rw[hm,hkd]
       (rw[e3,hd];have e4:ren hn (.osl k s o' l')=.osl d s o' l':=by show PV.osl (hn k) s o' l'=_;rw[hkd]);rw[e4]
       refine⟨?_,rfl⟩;funext t;show zA (uH (wX (scr d) T') d _) t=_;rw[cJ];simp only[upd];split;{rfl};{exact kZ _ (m6 d) _ _}
    {exact h.elim}
   {exact h.elim}
  {exact h.elim}
 {exact h.elim}
theorem zTY {ops:List Oper}{es:List (Nat×Nat)}{an:List Nat}{lim:List (Nat×Obj')}{K:List (Nat×PV)->List (Nat×Obj')->Prop}:∀ (l:List Oper) (i:Nat) {T:List (Nat×PV)} {O:List (Nat×Obj')},apWp ops es an lim l i T O K ->∃ (pvs:List PV) (Ob:Nat->List (Nat×Obj')) (T':List (Nat×PV)),pvs.length=l.length/\Ob 0=O/\K T' (Ob l.length)/\zA T'=v8 l pvs (zA T) /\ ∀ j o pv,l[j]?=some o->pvs[j]?=some pv->ApStep ops es an lim (i+j) o (v8 (l.take j) (pvs.take j) (zA T)) pv (Ob j) (Ob (j+1))
 |[],i,T,O,h=>⟨[],fun _=>O,T,rfl,rfl,h,rfl,fun j o pv h=>by simp at h⟩| o::r,i,T,O,h=>by
  obtain⟨pv,O1,T1,h1,ht1,hst⟩:∃ pv O1 T1,apWp ops es an lim r (i+1) T1 O1 K/\zA T1=upd (zA T) o.dst pv/\ApStep ops es an lim i o (zA T) pv O O1:=by
   unfold apWp at h;cases he:yT es i with
   |some n =>
    rw[he] at h;simp only at h;obtain⟨pv,s,o',l',x,x0,q1,q2,q3,q4,q5,q6,q7,q8,q9⟩:=zV5 (ops:=ops) h;exact⟨pv,_,_,q1,xP _ _ _,.app he q2 q3 q4 q5 q6 q7 q8 q9 rfl⟩
   |none =>
    rw[he] at h;simp only at h;have hm:zA (wX (scC (freeN an i es)) T)=fun t=>scC (freeN an i es) (zA T t):=funext fun t=>kZ _ rfl _ _;rw[hm] at h;rcases tN h with⟨pv,q1,q2⟩|⟨q1,q2⟩;{obtain⟨pv',p,g1,g2,g3,g4⟩:=t6 q1;exact⟨pv',O,p.tmps,g2,g4,.pure he (q2 pv' g1) rfl⟩};{exact⟨.tup [],O,_,q1,xP _ _ _,.pure he q2 rfl⟩}
  obtain⟨pvs,Ob,T',g1,g2,g3,g4,g5⟩:=zTY r (i+1) h1;refine⟨pv::pvs,fun j=>match j with|0=>O|j+1=>Ob j,T',by simp[g1],rfl,by simpa using g3,by rw[g4,ht1];rfl,fun j o' pv' hj hp=>?_⟩;cases j with
  |zero =>
   simp only[mK,bL] at hj hp;subst hj hp;show ApStep ops es an lim i o _ pv O (Ob 0);rw[g2];exact hst
  |succ j =>
   simp only[aT] at hj hp;have:=g5 j o' pv' hj hp;rw[ht1] at this;rw[show i+(j+1)=i+1+j by omega];exact this
theorem zCB:∀ {es:List (Nat×Nat)} {i m:Nat},yT es i=none->(i,m)∉es
 |(a,b)::r,i,m,h,hm=>by
  unfold yT at h;cases ha:nqb a i with
  |true=>rw[ha] at h;cases h
  |false =>
   rw[ha] at h;rcases z9.1 hm with e|hm;{cases e;simp at ha};{exact zCB h hm}
 |[],i,m,_,hm=>by simp at hm
theorem tP:∀ {es:List (Nat×Nat)} {m:Nat},m∈qM es↔∃ e,(e,m)∈es
 |[],m=>by simp[qM]| (e,x)::r,m=>by simp only[qM,z9,tP (es:=r)];constructor;{rintro (rfl|⟨e',h⟩);{exact⟨e,.inl rfl⟩};{exact⟨e',.inr h⟩}};{rintro⟨e',h|h⟩;{cases h;exact .inl rfl};{exact .inr ⟨e',h⟩}}
def AMem (es:List (Nat×Nat)) (O0:List (Nat×Obj')) (X:Nat->Obj') (B:Nat->Bool) (y:Nat×Obj'):Prop :=
 ∃ o,(y.1,o)∈O0/\y.2=scO (PL B es) (match z8 y.1 (PL B es) with|true=>X y.1|false=>o)
theorem iR {es:List (Nat×Nat)}{O0:List (Nat×Obj')}{X:Nat->Obj'}{B B':Nat->Bool}(h:∀ m,z8 m (PL B es)=z8 m (PL B' es))(y:Nat×Obj'):AMem es O0 X B y↔AMem es O0 X B' y:=by unfold AMem;constructor;{rintro⟨o,h1,h2⟩;exact⟨o,h1,by rw[h2,rE h,h]⟩};{rintro⟨o,h1,h2⟩;exact⟨o,h1,by rw[h2,rE h,h]⟩}
theorem zXG {es:List (Nat×Nat)}{B B':Nat->Bool}(h:∀ e m,(e,m)∈es->B e=B' e)(m:Nat):z8 m (PL B es)=z8 m (PL B' es):=by rw[aZ,fH,fH,dH,dH];exact⟨fun⟨e,h1,h2⟩=>⟨e,h1,by rw[<-h e m h1];exact h2⟩,fun⟨e,h1,h2⟩=>⟨e,h1,by rw[h e m h1];exact h2⟩⟩
theorem zZQ {es:List (Nat×Nat)}{B B':Nat->Bool}{i n:Nat}(hi:(i,n)∈es)(hu:∀ m,(i,m)∈es->m=n)(hB:∀ e,B' e=(B e || nqb e i))(m:Nat):z8 m (PL B' es)=z8 m (n::PL B es):=by rw[aZ,fH,fH,dH,z9,dH];constructor;{rintro⟨e,h1,h2⟩;rw[hB] at h2;simp only[alT1] at h2;rcases h2 with h2|h2;{exact .inr ⟨e,h1,h2⟩};{have:=yM h2;subst this;exact .inl (hu m h1)}};{rintro (rfl|⟨e,h1,h2⟩);{exact⟨i,hi,by rw[hB,nqb_self];simp⟩};{exact⟨e,h1,by rw[hB,h2];rfl⟩}}
def scrO (n:Nat):Obj'->Obj':=x9 (scr n)
theorem zY9 {ops:List Oper}{k:Nat}(D:DrawOk ops k){Q:Exit->Act->World->Prop}{K:PS->Prop}(hdst:∀ o,o∈ops->rX N o=true)(hk:∀ ps' a' w' S' β',K ps'->Sim w0 S0 K0 N (zA ps'.tmps) ps'.objs a' w' S' β'->Q .normal a' w') {T0 T2:List (Nat×PV)} {O0 O2:List (Nat×Obj')} {pvs:List PV} {es:List (Nat×Nat)} {X:Nat->Obj'} {Ob:Nat->List (Nat×Obj')} (hkl:k<=ops.length) (hlen:pvs.length=(ops.take k).length) (hK:qY ops (ops.drop k) ⟨bI (qM es) T2,O2⟩ K) (ht2:zA T2=v8 (ops.take k) pvs (zA T0)) (hO2:∀ y,y∈O2↔AMem es O0 X (fun j=>decide (j<k)) y) (hnd2:(O2.map Prod.fst).Nodup) (hes:∀ e m,(e,m)∈es->e<k/\m<1000000/\yT es e=some m) (hinj:∀ {i j n},yT es i=some n->yT es j=some n->i=j) (hst:∀ i o pv,(ops.take k)[i]?=some o->pvs[i]?=some pv->ApStep ops es (anc ops) (hH (qM es) O0) i o (v8 ((ops.take k).take i) (pvs.take i) (zA T0)) pv (Ob i) (Ob (i+1))) (h0:∀ i n x0,i<k->yT es i=some n->yA (Ob i) n=some x0->(n,x0)∈O0) (hX:∀ i n x x0,i<k->yT es i=some n->yA (Ob i) n=some x0->Ob (i+1)=setO (Ob i) n x->X n=x) (hnd0:(O0.map Prod.fst).Nodup):∀ (fuel:Nat) (L:Array Bool) {a:Act} {w:World} {S:Nat->Nat->Prop} {β:Bm} {G:List (Nat×PV)} {objs':List (Nat×Obj')},L.size=ops.length->(∀ j,j<ops.length->k<=j->¬Lst L j)->(∀ i o,ops[i]?=some o->Lst L i->a5 (Lst L) o)->unl L ops.length<=fuel ->Sim w0 S0 K0 N (zA (bI (PL (fun i=>L.getD i false) es) G)) objs' a w S β->(∀ y,y∈objs'↔AMem es O0 X (fun i=>L.getD i false) y)->At ops k pvs (zA T0) (Lst L) (zA G)->wpAny Pg .any ops.toArray Q fuel L a w:=by
 have hpl:k<=pvs.length:=by rw[hlen];simp;omega
 have htx:At ops k pvs (zA T0) (fun j=>j<k) (zA T2):=by
  (have htx:=At.text (τ0:=zA T0) D hlen k (zV _);have e1:(ops.take k).take k=ops.take k:=by rw[tE,zK9]);have e2:pvs.take k=pvs:=yN (by rw[hlen];simp;omega)
  rw[e1,e2,<-ht2] at htx;exact htx
 have hall1:∀ {L:Array Bool},(∀ j,j<k->Lst L j)->(∀ m,z8 m (PL (fun i=>L.getD i false) es)=z8 m (qM es))/\∀ m,z8 m (PL (fun i=>L.getD i false) es)=z8 m (PL (fun j=>decide (j<k)) es):=by intro L hfull;refine⟨fun m=>?_,zXG fun e m he=>?_⟩;{rw[aZ,fH,fH,dH,tP];exact⟨fun⟨e,h1,_⟩=>⟨e,h1⟩,fun⟨e,h1⟩=>⟨e,h1,hfull e (hes e m h1).1⟩⟩};{have:=hfull e (hes e m he).1;unfold Lst at this;rw[this,decide_eq_true (hes e m he).1]}
 have hendT:∀ {G:List (Nat×PV)} {L:Array Bool},(∀ j,j<k->Lst L j)->At ops k pvs (zA T0) (Lst L) (zA G)->zA (bI (PL (fun i=>L.getD i false) es) G)=zA (bI (qM es) T2):=by
  (intro G L hfull hat;have hg:zA G=zA T2:=by funext t;exact hat.same D hpl htx fun j o hj ho hd=>.inl ⟨hfull j hj,hj⟩);funext t;rw[qR,qR,hg,(hall1 hfull).1,dS (hall1 hfull).1]
 intro fuel;induction fuel with
 |zero =>
  (intro L a w S β G objs' hsz hge hcl hun h hin hat;have hall:=tK (Nat.le_zero.1 hun);have hall':∀ j,j<ops.length->Lst L j:=fun j hj=>by have h1:=hall j hj;rw[xM oM true false] at h1;exact h1);have hkn:ops.length<=k:=by rcases wE k ops.length with h'|h';{exact absurd (hall' k h') (hge k h' (zV _))};{exact h'}
  have hfull:∀ j,j<k->Lst L j:=fun j hj=>hall' j oM;refine zES D hdst hk 0 k L (ps:=⟨bI (qM es) T2,O2⟩) (S:=S) (β:=β) (zV _) hkl hsz (fun j hj=>⟨fun _=>by omega,fun _=>hall' j hj⟩) oM ?_ hK;show Sim w0 S0 K0 N (zA (bI (qM es) T2)) O2 a w S β;rw[<-hendT hfull hat];exact h.perm (fun x=>by rw[hO2 x,hin x,iR (hall1 hfull).2 x]) hnd2
 |succ fuel ih =>
  intro L a w S β G objs' hsz hge hcl hun h hin hat;by_cases hfull:∀ j,j<k->Lst L j
  ·refine zES D hdst hk (fuel+1) k L (ps:=⟨bI (qM es) T2,O2⟩) (S:=S) (β:=β) (zV _) hkl hsz (fun j hj=>⟨fun hl=>?_,fun hj'=>hfull j hj'⟩) ?_ ?_ hK;{rcases wE j k with h'|h';{exact h'};{exact absurd hl (hge j hj h')}}
   ·have cnt:∀ n,k<=n->n<=ops.length->n<=k+unl L n:=by
     intro n;induction n with
     |zero=>intro _ _;omega| succ n ihn =>
      intro hkn hn;simp only[unl];by_cases hk0:k=n+1;{omega}
      ·(have:=ihn oM oM;have hnl:=hge n oM oM;have:L.getD n true≠true:=by rw[xM oM true false];exact hnl);rw[if_neg this]
       omega
    have:=cnt ops.length hkl (zV _);omega
   {show Sim w0 S0 K0 N (zA (bI (qM es) T2)) O2 a w S β;rw[<-hendT hfull hat];exact h.perm (fun x=>by rw[hO2 x,hin x,iR (hall1 hfull).2 x]) hnd2}
  ·have hun0:∃ j,j<k/\¬Lst L j/\∀ i,i<j->Lst L i:=by
    have:∀ n,n<=k->(∀ i,i<n->Lst L i)\/∃ j,j<k/\¬Lst L j/\∀ i,i<j->Lst L i:=by
     intro n;induction n with
     |zero=>intro _;exact .inl fun i h=>by omega| succ n ihn =>
      intro hn;rcases ihn oM with h1|h1;{by_cases hx:Lst L n;{refine .inl fun i hi=>?_;by_cases e:i=n;{exact e ▸ hx};{exact h1 i oM}};{exact .inr ⟨n,by omega,hx,h1⟩}};{exact .inr h1}
    rcases this k (zV _) with h1|h1;{exact absurd h1 hfull};{exact h1}
   obtain⟨j0,hj0,hnj0,hbelow⟩:=hun0;refine⟨fun hr=>?_,fun i hi=>?_⟩
   ·(exfalso;have hlt:j0<ops.length:=by omega);have hin:j0∈Region.ready .any ops.toArray L:=by
     refine mem_ready.2 ⟨?_,ops[j0],by simp[hlt],fun e he hb=>?_⟩
     ·rw[xM oM true false];cases hx:L.getD j0 false with
      |false=>rfl| true=>exact absurd hx hnj0
     {exact hbelow e.on (D.back j0 _ (wN hlt) e (by simpa using he) hb)}
    rw[hr] at hin;cases hin
   ·(obtain⟨h1,o,h2,h3⟩:=mem_ready.1 hi;have ho:ops[i]?=some o:=by simpa using h2);have hlt:i<ops.length:=(v4.1 ho).1
    have hE:a5 (Lst L) o:=fun e he hb=>h3 e (by simpa using he) hb;have hik:i<k:=by rcases wE i k with h'|h';{exact h'};{exact absurd (xY hcl ho hE (D.rest i j0 hlt h' oM)) hnj0}
    (have hp:pvs[i]?=some pvs[i]:=wN oM;have hdo:=aP (hdst o (zZ ho));have hsize:i<L.size:=by omega);have hnl:¬Lst L i:=fun hl=>by rw[xM oM true false] at h1;unfold Lst at hl;rw[h1] at hl;exact absurd hl (by decide)
    have hagree:∀ t,t∈jI ops o->v8 ((ops.take k).take i) (pvs.take i) (zA T0) t=zA G t:=fun t ht=>At.same D hpl (At.text D hlen i oM) hat fun j oj hj hoj hd=>by rcases D.look i o t j oj hik hj ho hoj ht hd with⟨q1,q2⟩|⟨q1,q2⟩;{exact .inl ⟨q1,xY hcl ho hE q2⟩};{refine .inr ⟨by omega,fun hl=>?_⟩;have:=xY hcl hoj (hcl j oj hoj hl) q2;rw[xM oM true false] at h1;exact absurd this (by unfold Lst;rw[h1];decide)}
    (have hLs:∀ j,Lst (L.setIfInBounds i true) j↔Lst L j\/j=i:=vA hsize;have hB:∀ e,(L.setIfInBounds i true).getD e false=(L.getD e false || nqb e i):=fun e=>by have:=hLs e;unfold Lst at this;rw[aZ,this,alT1,nqb_iff]);have hnext:∀ {a':Act} {w':World} {S':Nat->Nat->Prop} {β':Bm} {G':List (Nat×PV)} {objs3:List (Nat×Obj')},zA G'=upd (zA G) o.dst pvs[i]->Sim w0 S0 K0 N (zA (bI (PL (fun e=>(L.setIfInBounds i true).getD e false) es) G')) objs3 a' w' S' β' ->
      (∀ y,y∈objs3↔AMem es O0 X (fun e=>(L.setIfInBounds i true).getD e false) y)->wpAny Pg .any ops.toArray Q fuel (L.setIfInBounds i true) a' w':=by
     intro a' w' S' β' G' objs3 hT hsim g1;refine ih (L.setIfInBounds i true) (by simpa using hsz) (fun j hj hkj hl=>?_) (fun j oj hoj hl=>?_) ?_ hsim g1 (by rw[hT];exact hat.step D hik ho hp fun j=>vA hsize j);{rcases (vA hsize j).1 hl with hl|hl;{exact hge j hj hkj hl};{omega}};{intro e he hb;rw[vA hsize];rcases (vA hsize j).1 hl with hl|hl;{exact .inl (hcl j oj hoj hl e he hb)};{subst hl;rw[ho] at hoj;cases hoj;exact .inl (hE e he hb)}};{have:=iW h1 hlt;omega}
    have hG':zA (put ⟨G,[]⟩ o.dst pvs[i]).tmps=upd (zA G) o.dst pvs[i]:=xP _ _ _;have hlist:∀ e m,(e,m)∈es->L.getD e false=true->∃ oe,ops[e]?=some oe/\oe.dst=some m/\∃ s a b,zA G m=.osl m s a b:=fun e m he hle=>by
     obtain⟨q1,q2,q3⟩:=hes e m he;have hoe:ops[e]?=some ops[e]:=wN oM;have hpe:pvs[e]?=some pvs[e]:=wN oM;cases hst e ops[e] pvs[e] (by rw[wG q1];exact hoe) hpe with
     |pure he' _ _=>rw[he'] at q3;cases q3
     |app he' hd hg h0' hpv _ _ _ _ _ =>
      rw[he'] at q3;cases q3;exact⟨_,hoe,hd,_,_,_,by rw[hat.hit e _ _ _ q1 hle hoe hpe hd,hpv]⟩
    have hPn:∀ n,yT es i=some n->z8 n (PL (fun e=>L.getD e false) es)=false:=fun n hn=>by
     cases hx:z8 n (PL (fun e=>L.getD e false) es) with
     |false=>rfl| true =>
      obtain⟨e,q1,q2⟩:=dH.1 (v7 hx);have:=hinj (hes e n q1).2.2 hn;subst this;exact absurd q2 hnl
    have hstep:=hst i o pvs[i] (by rw[wG hik];exact ho) hp;generalize hPP:PL (fun e=>L.getD e false) es=P at *
    cases hstep with
    | @app n s o' l' x x0 he hd hg hget hpv hx0 hx hfix hgo hO =>
     (have hXx:X n=x:=hX i n x x0 hik he hget hO;have hin0:(n,x0)∈O0:=h0 i n x0 hik he hget;have hnP:=hPn n he;have hino:(n,x0)∈objs':=by rw[hin];refine⟨x0,hin0,?_⟩;show x0=scO (PL _ es) (match z8 n (PL _ es) with|true=>X n|false=>x0);rw[hPP,hnP];exact (hx0 P).symm);have hgetr:yA objs' n=some x0:=vY h.obj.nd hino;have hfixr:∀ t,t∈jI ops o->zA (bI P G) t=v8 ((ops.take k).take i) (pvs.take i) (zA T0) t:=fun t ht=>by
      rw[qR,hagree t ht];cases hm:z8 t P with
      |true=>rfl| false =>
       rw[<-hagree t ht];rcases hfix t ht with⟨a1,b1,c1,e⟩|e;{rw[e];simp only[scC,scA,hnP]};{exact e P}
     (have hmn:=(hes i n (jY he)).2.1;have hs0:=hgo (bI P G) objs' hfixr hgetr (zL0 hmn _ _);have hPL:∀ m,z8 m (PL (fun e=>(L.setIfInBounds i true).getD e false) es)=z8 m (n::P):=fun m=>by rw[<-hPP];exact zZQ (jY he) (fun m' hm'=>by have:=(hes i m' hm').2.2;rw[he] at this;cases this;rfl) hB m);refine d8 ho (.inl ⟨by simp[Region.wanted,hg],dV (ps:=⟨bI P G,objs'⟩) h hs0 hdo fun ps' a' w' S' β' hK hsim=>?_⟩);obtain⟨hK1,hK2⟩:=hK;rw[hK2] at hsim;have hTT:zA ps'.tmps=zA (bI (PL (fun e=>(L.setIfInBounds i true).getD e false) es) (put ⟨G,[]⟩ o.dst pvs[i]).tmps):=by
      (rw[hK1];funext t;rw[qR,hG',hd,hPL t];show (if t=n then pvs[i] else scr n (zA (bI P G) t))=match nqb n t || z8 t P with|true=>(if t=n then pvs[i] else zA G t)|false=>scC _ (if t=n then pvs[i] else zA G t));by_cases htn:t=n
      {subst htn;rw[nqb_self,if_pos rfl,if_pos rfl];rfl}
      ·have:nqb n t=false:=by
        cases hx:nqb n t with
        |false=>rfl| true=>exact absurd (yM hx).symm htn
       rw[this,zLA,if_neg htn,if_neg htn,qR];cases hm:z8 t P with
       |true =>
        rw[<-hPP] at hm;obtain⟨e,q1,q2⟩:=dH.1 (v7 hm);obtain⟨oe,_,_,s1,a1,b1,e1⟩:=hlist e t q1 q2;show scr n (zA G t)=zA G t;rw[e1];simp only[scr,sc0];rw[show nqb t n=false by rw[zJM];exact this]
       |false =>
        show scr n (scC P (zA G t))=scC _ (zA G t);rw[zNU];exact (dS hPL _).symm
     (rw[hTT] at hsim;refine hnext hG' hsim fun y=>?_;have hmemo:∀ z:Nat×Obj',z∈y5 (scr n) (xT objs' n)↔∃ o1,(z.1,o1)∈objs'/\z.1≠n/\z.2=scrO n o1:=fun z=>by constructor;{intro hz;obtain⟨o1,q1,q2⟩:=wT (n:=z.1) (o:=z.2) _ hz;obtain⟨q3,q4⟩:=wU q1;exact⟨o1,q3,q4,q2⟩};{rintro⟨o1,q1,q2,q3⟩;have q4:=rQ q1 q2;have:(z.1,scrO n o1)∈y5 (scr n) (xT objs' n):=rP (scr n) q4;rw[<-q3] at this;exact this});rw[wQ,kE,hmemo];unfold AMem;have hsc:∀ o1:Obj',scrO n (scO P o1)=scO (n::P) o1:=fun o1=>zA2 _ _ _ (zNU n P) o1;constructor
     ·rintro (⟨o1,q1,q2,q3⟩|q)
      ·rw[hin] at q1;obtain⟨o2,q4,q5⟩:=q1;simp only at q4 q5;refine⟨o2,q4,?_⟩;rw[hPP] at q5;rw[q3,q5,hsc,rE hPL,hPL];show _=scO (n::P) (match nqb n y.1 || z8 y.1 P with|true=>X y.1|false=>o2);rw[show nqb n y.1=false by
        cases hx:nqb n y.1 with
        |false=>rfl| true=>exact absurd (yM hx).symm q2]
       rfl
      {subst q;refine⟨x0,hin0,?_⟩;rw[hPL,rE hPL];show x=scO (n::P) (match nqb n n || z8 n P with|true=>X n|false=>x0);rw[nqb_self,Bool.true_or];show x=scO (n::P) (X n);rw[hXx,hx]}
     ·rintro⟨o2,q4,q5⟩;rw[hPL,rE hPL] at q5;by_cases hy:y.1=n;{right;have q6:y.2=scO (n::P) (match nqb n y.1 || z8 y.1 P with|true=>X y.1|false=>o2):=q5;rw[hy,nqb_self,Bool.true_or] at q6;have q7:y.2=scO (n::P) (X n):=q6;rw[hXx,hx] at q7;cases y;simp only at hy q7;rw[hy,q7]}
      ·left;have hne:nqb n y.1=false:=by
        cases hx:nqb n y.1 with
        |false=>rfl| true=>exact absurd (yM hx).symm hy
       have q6:y.2=scO (n::P) (match nqb n y.1 || z8 y.1 P with|true=>X y.1|false=>o2):=q5;rw[hne,zLA] at q6;refine⟨scO P (match z8 y.1 P with|true=>X y.1|false=>o2),?_,hy,?_⟩;{rw[hin];exact⟨o2,q4,by rw[hPP]⟩};{rw[q6,hsc]}
    |pure he hs1 hO =>
     have hPL:∀ m,z8 m (PL (fun e=>(L.setIfInBounds i true).getD e false) es)=z8 m P:=fun m=>by
      rw[<-hPP];refine zXG (fun e m' hm'=>?_) m;rw[hB];have:nqb e i=false:=by
       cases hx:nqb e i with
       |false=>rfl| true=>have:=yM hx;subst this;exact absurd hm' (zCB he)
      rw[this,Bool.or_false]
     have hsub:∀ m,z8 m P=true->z8 m (freeN (anc ops) i es)=true:=fun m hm=>by
      rw[<-hPP] at hm;obtain⟨e,q1,q2⟩:=dH.1 (v7 hm);refine rL (zAM.2 ⟨e,q1,?_⟩);cases hx:((anc ops).getD e 0).testBit i with
      |false=>rfl| true =>
       obtain⟨oe,hoe,_⟩:=hlist e m q1 q2;exact absurd (xY hcl hoe (hcl e oe hoe q2) hx) hnl
     have hweak:∀ t v,Rep w S β v (zA (bI P G) t)->Rep w S β v (scC (freeN (anc ops) i es) (zA G t)):=fun t v hr=>by
      rw[qR] at hr;cases hm:z8 t P with
      |true=>rw[hm] at hr;exact m7 hr| false =>
       rw[hm] at hr;have:=m7 (P:=freeN (anc ops) i es) hr;simp only at this;rw[zJD hsub] at this;exact this
     have hobj:∀ n o',(n,o')∈y5 (scC (freeN (anc ops) i es)) (hH (qM es) O0)->∃ o,(n,o)∈objs'/\(ObjAt w S β n o->ObjAt w S β n o')/\(∀ i,j5 o i->j5 o' i)/\∀ b,Own β n o' b->Own β n o b:=fun n o' hm=>by
      obtain⟨o1,q1,q2⟩:=(bE _).1 hm;simp only at q1 q2;obtain⟨q3,q4⟩:=zDY q1;have hnn:z8 n P=false:=by
       cases hx:z8 n P with
       |false=>rfl| true =>
        rw[<-hPP] at hx;obtain⟨e,r1,_⟩:=dH.1 (v7 hx);exact absurd (tP.2 ⟨e,r1⟩) q4
      refine⟨scO P o1,(hin _).2 ⟨o1,q3,by rw[hPP,hnn]⟩,fun hat=>?_,fun j hj=>?_,fun b hb=>?_⟩;{rw[q2,<-zJC hsub];exact zS2 hat};{rw[q2,<-zJC hsub];exact zNV hj};{rw[q2] at hb;exact zRS (v6 hb)}
     (have hndl:((y5 (scC (freeN (anc ops) i es)) (hH (qM es) O0)).map Prod.fst).Nodup:=by rw[gX];exact (zEA _ _).nodup hnd0);have hw2:=h.weak (τ':=fun t=>scC (freeN (anc ops) i es) (zA G t)) hweak hndl hobj;have hs2:vM false (y5 (scC (freeN (anc ops) i es)) (hH (qM es) O0)) ops o (fun t=>scC (freeN (anc ops) i es) (zA G t)) pvs[i]:=a7 (fun t ht=>by rw[hagree t ht]) hs1;have hndst:∀ d,o.dst=some d->z8 d P=false:=fun d hd=>by
      cases hx:z8 d P with
      |false=>rfl| true =>
       rw[<-hPP] at hx;obtain⟨e,q1,q2⟩:=dH.1 (v7 hx);obtain⟨oe,hoe,hde,_⟩:=hlist e d q1 q2;have hek:=(hes e d q1).1;have:=bR D.dst (by rw[wG hek];exact hoe) (by rw[wG hik];exact ho) hde hd;subst this;exact absurd q2 hnl
     have hTT:upd (zA (bI P G)) o.dst (scC P pvs[i])=zA (bI (PL (fun e=>(L.setIfInBounds i true).getD e false) es) (put ⟨G,[]⟩ o.dst pvs[i]).tmps):=by
      funext t;rw[qR,hG',hPL t];cases hd:o.dst with
      |none =>
       simp only[upd];rw[qR];cases z8 t P with
       |true=>rfl| false=>exact (dS hPL _).symm
      |some d =>
       simp only[upd];by_cases htd:t=d;{subst htd;rw[if_pos rfl,if_pos rfl,hndst t hd];exact (dS hPL _).symm}
       ·rw[if_neg htd,if_neg htd,qR];cases z8 t P with
        |true=>rfl| false=>exact (dS hPL _).symm
     (have hfin:∀ y,y∈objs'↔AMem es O0 X (fun e=>(L.setIfInBounds i true).getD e false) y:=fun y=>by rw[hin y];exact iR (fun m=>by rw[hPP,hPL]) y);refine d8 ho ?_;rcases j2 hw2.tmp hs2 with⟨hw,hA⟩|⟨hw,hBB⟩
     {refine .inl ⟨hw,lO hw2 hA fun pv w' S' v hpv l hr=>?_⟩;refine hnext (S':=S') (β':=β) hG' ?_ hfin;rw[<-hTT];exact (h.go l).put o.dst hdo (m7 (hr.le _ hpv))};{refine .inr ⟨hw,hnext (S':=S) (β':=β) hG' ?_ hfin⟩;rw[<-hTT];refine h.put o.dst hdo (m7 ?_);rw[hBB];exact nA _ _ _}
theorem cU {m n:Nat}{x:Obj'}(hne:m≠n):∀ (l:List (Nat×Obj')),yA (setO l m x) n=yA l n
 |[]=>by
  show (match nqb m n with|true=>some x|false=>none)=none;cases hx:nqb m n with
  |true=>exact absurd (yM hx) hne| false=>rfl
 |(u,v)::r=>by
  unfold setO;cases hu:nqb u m with
  |true =>
   have hum:=yM hu;have h2:nqb m n=false:=by
    cases hx:nqb m n with
    |false=>rfl| true=>exact absurd (yM hx) hne
   show (match nqb m n with|true=>some x|false=>yA r n)=(match nqb u n with|true=>some v|false=>yA r n);rw[hum,h2]
  |false =>
   show (match nqb u n with|true=>some v|false=>yA (setO r m x) n)=(match nqb u n with|true=>some v|false=>yA r n);rw[cU hne r]
section
variable {a:Act} {w:World} {S:Nat->Nat->Prop} {β:Bm}
theorem zIK (ops:List Oper)(l:List Bool):Region.ready .any ops.toArray l.toArray=rdyL ops l:=by
 unfold Region.ready rdyL;simp only[zLC];congr 1;funext i;have e1:l.toArray.getD i true=l.getD i true:=by simp[zLG,yC]
 rw[e1];congr 1;rw[zQZ];cases ops[i]? with
 |none=>rfl| some o =>
  simp only[Option.map_some,zMO];unfold zO5;rw[<-Array.all_toList];congr 1;funext e;simp[zLG,yC]
theorem zQ3 {o:Oper}{a:Act}{w:World}{K:Act->World->Prop}{Q Q':Exit->Act->World->Prop}(h:∀ e a w,Q e a w->Q' e a w)(hh:o.wp Pg a w K Q):o.wp Pg a w K Q':=by
 unfold Oper.wp at *
 generalize (execOp a.eval o).run Pg w=r at *
 cases r with
 |ok n w' =>
  cases n with
  |enter f args =>
   rw[Oper.upon_enter] at *
   refine hh.mono fun e w'' q=>?_;cases e with
   |returned v=>exact q| panicked c=>exact h _ _ _ q| outgrown=>obtain⟨a',w1,q⟩:=q;exact⟨a',w1,h _ _ _ q⟩
  |_=>exact hh
 |halt x w' =>
  cases x with
  |panic v=>exact h _ _ _ hh| _=>exact hh
theorem zAU {ops:Array Oper}{Q Q':Exit->Act->World->Prop}(h:∀ e a w,Q e a w->Q' e a w):∀ (f:Nat) (l:Array Bool) (a:Act) (w:World),wpAny Pg .any ops Q f l a w->wpAny Pg .any ops Q' f l a w
 |0,l,a,w,hh=>⟨hh.1,h _ _ _ hh.2⟩| f+1,l,a,w,hh=>⟨fun e=>h _ _ _ (hh.1 e),fun i hi=>by
  have:=wpOp_mono (fun a w=>zAU h f _ a w) (hh.2 i hi);unfold wpOp at *
  split;{rename_i e;rw[e] at this;exact this}
  ·rename_i o e;rw[e] at this;simp only at this;split;{rename_i hw;rw[if_pos hw] at this;rcases this with q|⟨q1,a',w1,q2⟩;{exact .inl (zQ3 h q)};{exact .inr ⟨q1,a',w1,h _ _ _ q2⟩}}
   ·rename_i hw;rw[if_neg hw] at this;exact this⟩
theorem zSI {o:Oper}{τ:Nat->PV}(hc:calm o τ=true)(he:∀ x,Rep w S β (a.eval x) (ev τ x)){objs:List (Nat×Obj')}{K:PV->Prop}(hs:sop objs o.op (ev τ) K):∃ pv v,K pv/\Rep w S β v pv/\∀ w',(execOp a.eval o).run Pg w'=.ok (.value v) w':=by unfold calm at hc;split at hc;{rename_i x hop;rw[hop] at hs;exact⟨_,_,hs,he x,fun w'=>by simp[execOp,hop]⟩};{rename_i x hop;rw[hop] at hs;have hx:=he x;split at hc;{rename_i n off e;rw[e] at hx;obtain⟨b,hβ,hv⟩:=k9 hx;simp only[sop] at hs;rw[e] at hs;exact⟨_,_,hs,.ptr hβ,fun w'=>by simp[execOp,hop,hv]⟩};{cases hc}};{rename_i t x i hop;rw[hop] at hs;have hx:=he x;split at hc;{rename_i n fs z n' off ht e;split at hc;{rename_i f hf;rw[e] at hx;obtain⟨b,hβ,hv⟩:=k9 hx;obtain⟨o1,s1,g1⟩:=f;obtain⟨fields,fld,h1,h2,h3,h4,h5,h6⟩:=zD5 ht hf;simp only[sop] at hs;rw[ht,e] at hs;simp only[hf] at hs;refine⟨_,_,hs,.ptr hβ,fun w'=>?_⟩;have:=sB (w:=w') ht hf b off;simp[execOp,hop,hv,this]};{cases hc}};{cases hc}};{cases hc}
theorem lL {ops:List Oper}{l:List Bool}{τ:Nat->PV}:∀ {r:List Nat} {j:Nat},zK3 ops l τ r=some j->j∈r/\∃ o,ops[j]?=some o/\calm o τ=true/\zGV o=true/\Region.free .any ops.toArray l.toArray j=true
 |[],j,h=>by cases h
 |i::r,j,h=>by
  unfold zK3 at h;cases ho:ops[i]? with
  |none =>
   rw[ho] at h;have:=lL h;exact⟨xI _ this.1,this.2⟩
  |some o =>
   rw[ho] at h;simp only at h;cases hc:calm o τ&&zGV o&&Region.free .any ops.toArray l.toArray i with
   |false =>
    rw[hc] at h;have:=lL h;exact⟨xI _ this.1,this.2⟩
   |true =>
    rw[hc] at h;cases h;simp only[y9] at hc;exact⟨xD,o,ho,hc.1.1,hc.1.2,hc.2⟩
theorem zKZ {f:Nat->Prop}:∀ {r:List Nat},allW f r->∀ j,j∈r->f j
 |[],_,j,h=>by cases h
 |i::r,h,j,hj=>by rcases z9.1 hj with e|e;{rw[e];exact h.1};{exact zKZ h.2 j e}
theorem eK {o:Oper}(h:zGV o=true)(y:Nat->Option Value):o.guard=none:=by
 unfold zGV at h;cases hg:o.guard with
 |none=>rfl| some g=>rw[hg] at h;cases h
theorem zQF {o:Oper}{ps:PS}{K:PS->Prop}(hc:calm o (zA ps.tmps)=true)(h:cT o ps K):sop ps.objs o.op (ev (zA ps.tmps)) (fun v=>K (put ps o.dst v)):=by unfold calm at hc;split at hc;{rename_i x hop;unfold cT at h;rw[hop] at h ⊢;exact h};{rename_i x hop;unfold cT at h;rw[hop] at h ⊢;exact h};{rename_i t x i hop;unfold cT at h;rw[hop] at h ⊢;exact h};{cases hc}
theorem zH1 {ops:List Oper}{K:PS->Prop}(hsel:Region.noSelect ops.toArray=true)(hdst:∀ o,o∈ops->rX N o=true):∀ (f:Nat) (l:List Bool) (ps:PS) {a:Act} {w:World} {S:Nat->Nat->Prop} {β:Bm},zG1 ops f l ps K->Sim w0 S0 K0 N (zA ps.tmps) ps.objs a w S β ->wpAny Pg .any ops.toArray (fun e a w=>match e with|.normal=>∃ ps' S' β',K ps'/\Sim w0 S0 K0 N (zA ps'.tmps) ps'.objs a w S' β'|_=>False) f l.toArray a w
 |0,l,ps,a,w,S,β,hs,h=>by
  unfold zG1 at hs;unfold wpAny;rw[zIK];cases hr:rdyL ops l with
  |nil=>rw[hr] at hs;exact⟨rfl,ps,S,β,hs,h⟩| cons i r=>rw[hr] at hs;exact hs.elim
 |f+1,l,ps,a,w,S,β,hs,h=>by
  unfold zG1 at hs;cases hr:rdyL ops l with
  |nil =>
   rw[hr] at hs;exact wpAny_done (by rw[zIK,hr]) ⟨ps,S,β,hs,h⟩ _
  |cons i r =>
   (rw[hr] at hs;simp only at hs;have hd:∀ {o:Oper},o∈ops->∀ t,o.dst=some t->t<N:=fun {o} ho t ht=>by have:=hdst o ho;unfold rX at this;rw[ht] at this;simpa using this);cases ht:zK3 ops l (zA ps.tmps) (i::r) with
   |some j =>
    rw[ht] at hs;simp only at hs;obtain⟨hj,o,ho,hc,hg,hf⟩:=lL ht;unfold zQO at hs;rw[ho] at hs;simp only[hg] at hs;have hg':=eK hg (fun _=>none);obtain⟨pv,v,h1,h2,h3⟩:=zSI (w:=w) (S:=S) (β:=β) (a:=a) hc (fun x=>h.eval x) (zQF hc hs);refine wpAny_take (i:=j) (oi:=o) (v:=v) (by rw[zQZ];exact ho) hsel hf (by rw[zIK,hr];simpa using hj) (fun c a w q=>q.elim) (.inl ⟨by simp[Region.wanted,hg'],h3⟩) ?_;have:=zH1 hsel hdst f (l.set j true) _ h1 (vK h o.dst (hd (zZ ho)) h2);rwa [<-List.setIfInBounds_toArray] at this
   |none =>
    rw[ht] at hs;simp only at hs;refine wpAny_all (rs:=i::r) (by rw[zIK,hr]) (by simp) fun j hj=>?_;have hs':=zKZ hs j hj;unfold zQO at hs';unfold wpOp;rw[zQZ];cases ho:ops[j]? with
    |none=>rw[ho] at hs';exact hs'.elim| some o =>
     rw[ho] at hs';simp only at hs' ⊢;cases hg:zGV o with
     |false=>rw[hg] at hs';exact hs'.elim| true =>
      rw[hg] at hs';have hg':=eK hg (fun _=>none);rw[if_pos (by simp[Region.wanted,hg'])];refine .inl (dV h hs' (hd (zZ ho)) fun ps' a' w' S' β' hK hsim=>?_);have:=zH1 hsel hdst f (l.set j true) ps' hK hsim;rwa [<-List.setIfInBounds_toArray] at this
end
theorem zL2 {ops:List Oper}{ps:PS}{K:PS->Prop}(hs:DrawK ops ps K){Q:Exit->Act->World->Prop}(hdst:∀ o,o∈ops->rX N o=true)(hk:∀ ps' a' w' S' β',K ps'->Sim w0 S0 K0 N (zA ps'.tmps) ps'.objs a' w' S' β'->Q .normal a' w') {a:Act} {w:World} {S:Nat->Nat->Prop} {β:Bm} (h:Sim w0 S0 K0 N (zA ps.tmps) ps.objs a w S β):wpAny Pg .any ops.toArray Q ops.length (Array.replicate ops.length false) a w.drew:=by
 have hnone:∀ j,¬Lst (Array.replicate ops.length false) j:=by intro j hj;unfold Lst at hj;rcases wE j ops.length with h'|h';{simp[h'] at hj};{simp[zMP,h'] at hj}
 have hunl:∀ n,unl (Array.replicate ops.length false) n<=n:=by
  intro n;induction n with
  |zero=>exact zV _| succ n ih=>simp only[unl];split <;> omega
 rcases hs.h with⟨k,ps',hw,hd,hs⟩|⟨k,ps',hw,hd,hm,hs⟩|⟨k,i0,n,us,ps',hw,hd,hm,hs⟩|⟨k,es,ps',hw,hd,he,hm,hs⟩|⟨k,es,ps',hw,hd,he,hs⟩|⟨σ,inv,good,ps',hw,hsel,hs,hks⟩
 ·(obtain⟨S1,β1,h1⟩:=hw.sound h;have D:=cK hd;have hkl:k<=ops.length:=by rcases wE ops.length k with h'|h';{obtain⟨o,ho⟩:=D.full ops.length h';simp at ho};{exact h'});obtain⟨pvs,ps2,g1,g2,g3,g4,g5⟩:=zDD _ hs;have hno:∀ i o,i<k->ops[i]?=some o->wY o=none:=by
   (intro i o hi ho;have hlt:i<pvs.length:=by rw[g1];simp;have:=(v4.1 ho).1;omega);exact (zCP (g5 i o pvs[i] (by rw[wG hi];exact ho) (wN hlt))).1
  refine zXB (ms:=[]) D hdst hk hkl g1 (by rw[kC,<-g3];exact g2) (fun x=>⟨fun q=>by simp at q,fun⟨i,o,q1,q2,q3⟩=>by rw[hno i o q1 q2] at q3;cases q3⟩) (by rw[kC];exact h1.obj.nd) (fun n x q=>by simp at q) g4
   (fun i o pv q1 q2=>(zCP (g5 i o pv q1 q2)).2) ops.length _ (by simp) (fun j _ _=>hnone j) (fun i o _ hl=>absurd hl (hnone i)) (hunl _) (h1.go (kP h1.ld.bnd)) (fun x=>⟨.inl,fun q=>q.resolve_right fun⟨i,_,_,q2,_⟩=>hnone i q2⟩)
   ⟨fun j o t pv _ hl=>absurd hl (hnone j),fun t _=>rfl⟩
 ·(obtain⟨S1,β1,h1⟩:=hw.sound h;have D:=cK hd;have hkl:k<=ops.length:=by rcases wE ops.length k with h'|h';{obtain⟨o,ho⟩:=D.full ops.length h';simp at ho};{exact h'});obtain⟨pvs,ps2,g1,⟨g2a,g2⟩,g3,g4,g5⟩:=zFX _ hs;simp only[y9] at hm;have hms:=fun x=>eR (k:=k) (ops:=ops) (x:=x);refine zXB (ms:=yZ (ops.take k)) D hdst hk hkl g1 (by rw[<-g3];exact g2) hms ?_ ?_ g4
   g5 ops.length _ (by simp) (fun j _ _=>hnone j) (fun i o _ hl=>absurd hl (hnone i)) (hunl _) (h1.go (kP h1.ld.bnd)) (fun x=>⟨.inl,fun q=>q.resolve_right fun⟨i,_,_,q2,_⟩=>hnone i q2⟩)
   ⟨fun j o t pv _ hl=>absurd hl (hnone j),fun t _=>rfl⟩
  {rw[gL,sJ];refine⟨h1.obj.nd,jW hm.1,?_⟩;intro x hx y hy e;subst e;obtain⟨⟨m,o⟩,q1,rfl⟩:=yS.1 hx;obtain⟨⟨m',o'⟩,q2,e2⟩:=yS.1 hy;have:=t9 hm.2 q2;simp only[yJ,y9] at this;exact (yK this.2 q1).1 e2.symm};{intro n x hx;have q1:=t9 hm.2 hx;simp only[yJ,y9] at q1;exact⟨vX q1.2,vD q1.1,fun m o q=>yK q1.2 q,fun t ht=>zDX ht (zAG g2a hx)⟩}

 ·(obtain⟨S1,β1,h1⟩:=hw.sound h;have D:=cK hd;have hkl:k<=ops.length:=by rcases wE ops.length k with h'|h';{obtain⟨o,ho⟩:=D.full ops.length h';simp at ho};{exact h'});simp only[zMD,y9,f8,wZ] at hm;obtain⟨⟨hm1,hm2⟩,hm3⟩:=hm;have hi0:=t7 hm1;cases hos:ops[i0]? with
  |none=>rw[hos] at hm2;cases hm2
  |some os =>
   rw[hos] at hm2;simp only at hm2;obtain⟨hg,hnd,ts,ad,v,hop⟩:os.guard=none/\os.dst=none/\∃ ts ad v,os.op=.store ts ad v:=by split at hm2;{rename_i q1 q2 q3;exact⟨q1,q2,_,_,_,q3⟩};{cases hm2}
   (unfold zMC at hs;obtain⟨pvs1,p1,g1,g2,g3,g4,g5⟩:=zSU _ 0 hs;rw[hos] at g2;simp only at g2;obtain⟨objs2,q0,q1,q2⟩:=zQ8 (T:=p1.tmps) (objs:=p1.objs) hop hnd g2.2 g2.1;rw[g3] at q0;obtain⟨pvs2,p3,e1,e2,e3,e4,e5⟩:=zDD _ q1;have hlt0:i0<ops.length:=by omega);have l1:(ops.take i0).length=i0:=by simp;omega
   have hsplit:ops.take k=ops.take i0++os::(ops.take k).drop (i0+1):=by
    (have a1:(ops.take k)[i0]?=some os:=by rw[wG hi0];exact hos);obtain⟨a2,a3⟩:=v4.1 a1
    have a4:=iQ i0 (ops.take k);rw[tE,tD oM,c7 a2,a3] at a4;exact a4.symm
   (have hpl:(pvs1++PV.any::pvs2).length=(ops.take k).length:=by have:=congrArg List.length hsplit;rw[this];simp only[wP,x7,g1,e1]);have hτ0:v8 ((ops.take k).take i0) ((pvs1++PV.any::pvs2).take i0) (zA ps'.tmps)=zA p1.tmps:=by rw[g4,tE,tD oM];congr 1;rw[zNF oM,yN oM]
   (have hp3:p3=⟨p3.tmps,objs2⟩:=by cases p3;cases e3;rfl);refine zY8 (T0:=ps'.tmps) (objs1:=ps'.objs) (objs2:=objs2) (ps2:=p3) (pvs:=pvs1++PV.any::pvs2) (os:=os) D hdst hk hi0 hos hg hkl hpl (by rw[<-hp3];exact e2) ?_ ?_ ?_
    ops.length _ (by simp) (fun j _ _=>hnone j) (fun i o _ hl=>absurd hl (hnone i)) (hunl _) (h1.go (kP h1.ld.bnd)) (fun q=>absurd q (hnone i0)) (fun _=>rfl)
    ⟨fun j o t pv _ hl=>absurd hl (hnone j),fun t _=>rfl⟩
   {rw[hsplit,zDB oM];show _=v8 _ pvs2 (upd (v8 (ops.take i0) pvs1 (zA ps'.tmps)) os.dst .any);rw[hnd,<-g4,e4];rfl}
   ·intro i o pv hik hne ho hp;have hb:=hm3 i hik;rw[ho] at hb;have hne':nqb i i0=false:=by
     cases hx:nqb i i0 with
     |false=>rfl| true=>exact absurd (yM hx) hne
    rw[hne',zLA] at hb;simp only[alT1,y9] at hb;rcases Nat.lt_or_gt_of_ne hne with hlt|hlt
    ·have hs1:vM false ps'.objs ops o (v8 ((ops.take k).take i) ((pvs1++PV.any::pvs2).take i) (zA ps'.tmps)) pv:=by
      (have a1:(ops.take i0)[i]?=some o:=by rw[wG hlt];exact ho);have a2:pvs1[i]?=some pv:=by rw[uD oM] at hp;exact hp
      have:=(g5 i o pv a1 a2).1;rw[tE,tD oM] at this ⊢;rw[zNF oM];exact this
     refine⟨.inl hs1,?_⟩;rcases hb with ((hb|hb)|hb)|hb;{exact .inl (zAV hb hs1)};{exact .inr hb.2};{have:=t7 hb.1;omega}
     ·(refine .inl (zB0 (q0 (by intro e;rw[e] at hb;simp[z8] at hb)) ?_);have a1:(ops.take i0)[i]?=some o:=by rw[wG hlt];exact ho);have a2:pvs1[i]?=some pv:=by rw[uD oM] at hp;exact hp
      have:=(g5 i o pv a1 a2).2 (by rw[xA];exact hb.2);rw[tE,tD oM] at this ⊢;rw[zNF oM];exact this
    ·have hs2:vM false objs2 ops o (v8 ((ops.take k).take i) ((pvs1++PV.any::pvs2).take i) (zA ps'.tmps)) pv:=by
      (obtain⟨m,rfl⟩:∃ m,i=i0+1+m:=⟨i-(i0+1),by omega⟩;have a1:((ops.take k).drop (i0+1))[m]?=some o:=by rw[fQ,wG hik];exact ho);have a2:pvs2[m]?=some pv:=by
       (rw[uN oM] at hp;have:i0+1+m-pvs1.length=m+1:=by omega);rw[this,aT] at hp
       exact hp
      have:=e5 m o pv a1 a2;have b1:(ops.take k).take (i0+1+m)=ops.take i0++os::((ops.take k).drop (i0+1)).take m:=by
       (have hx:=congrArg (List.take (i0+1+m)) hsplit;rw[hx,List.take_append];have c1:(ops.take i0).take (i0+1+m)=ops.take i0:=yN oM;have c2:i0+1+m-(ops.take i0).length=m+1:=by omega);rw[c1,c2,zQW]
      have b2:(pvs1++PV.any::pvs2).take (i0+1+m)=pvs1++PV.any::pvs2.take m:=by
       (rw[List.take_append];have c1:pvs1.take (i0+1+m)=pvs1:=yN oM;have c2:i0+1+m-pvs1.length=m+1:=by omega);rw[c1,c2,zQW]
      rw[b1,b2,zDB oM];show vM false _ _ _ (v8 _ _ (upd (v8 (ops.take i0) pvs1 (zA ps'.tmps)) os.dst .any)) _;rw[hnd,<-g4];exact this
     refine⟨?_,.inl hs2⟩;rcases hb with ((hb|hb)|hb)|hb;{exact .inl (zAV hb hs2)};{have:=t7 hb.1;omega};{exact .inr hb.2};{have:=t7 hb.1;omega}
   ·intro T hT;have:=q2 (fun p=>zA p.tmps=upd (zA T) os.dst ((pvs1++PV.any::pvs2).getD i0 .any)/\p.objs=objs2) T (fun x hx=>?_) (by rw[hnd];exact⟨rfl,rfl⟩);{rw[g3] at this;exact this}
    ·cases x with
     |tmp t =>
      show zA T t=zA p1.tmps t;rw[hT t ?_,hτ0];unfold jI;rw[hg];refine dB _ ?_;rw[zML];exact⟨_,hx,rfl⟩
     |_=>rfl
 ·(obtain⟨S1,β1,h1⟩:=hw.sound h;have D:=cK hd;have hkl:k<=ops.length:=by rcases wE ops.length k with h'|h';{obtain⟨o,ho⟩:=D.full ops.length h';simp at ho};{exact h'});simp only[y9] at hm;simp only[efOk,y9,f8,wZ] at he;obtain⟨he1,he2⟩:=he;have hinj:∀ {i j n},yT es i=some n->yT es j=some n->i=j:=fun h1 h2=>zAI he1 h1 h2;have hek:∀ i n,yT es i=some n->i<k:=fun i n h=>t7 (he2 _ (jY h)).1.1;have hmkE:∀ i o x,ops[i]?=some o->wY o=some x->yT es i=none:=fun i o x ho hmk=>by
   cases hl:yT es i with
   |none=>rfl| some n =>
    have:=(he2 _ (jY hl)).1.2;simp only[ho,hmk] at this;cases this
  (have hanc:∀ i n j oj x,i<k->yT es i=some n->j<k->ops[j]?=some oj->wY oj=some (n,x)->((anc ops).getD i 0).testBit j=true:=fun i n j oj x _ hi hj hoj hmk=>by have:=(he2 _ (jY hi)).2 j hj;simp only[hoj,hmk,nqb_self,Bool.not_true,zLA] at this;exact this);obtain⟨pvs,Ob,T2,g1,g2,⟨g3,g4⟩,g5,g6⟩:=zTQ _ 0 hs;have g6':∀ i o pv,(ops.take k)[i]?=some o->pvs[i]?=some pv->EfStep ops es (yZ (ops.take k)) (hH (qM es) ps'.objs) i o (v8 ((ops.take k).take i) (pvs.take i) (zA ps'.tmps)) pv (Ob i) (Ob (i+1)):=fun i o pv q1 q2=>by have:=g6 i o pv q1 q2;rw[xA] at this;exact this
  (have hkt:(ops.take k).length=k:=by simp;omega);have hms:=fun x=>eR (k:=k) (ops:=ops) (x:=x)
  (have hndm:((ps'.objs++yZ (ops.take k)).map Prod.fst).Nodup:=by rw[gL,sJ];refine⟨h1.obj.nd,jW hm.1,?_⟩;intro x hx y hy e;subst e;obtain⟨⟨m,o⟩,q1,rfl⟩:=yS.1 hx;obtain⟨⟨m',o'⟩,q2,e2⟩:=yS.1 hy;have:=t9 hm.2 q2;simp only[yJ,y9] at this;exact (yK this.2 q1).1 e2.symm);have hop:∀ i,i<k->∃ o pv,ops[i]?=some o/\(ops.take k)[i]?=some o/\pvs[i]?=some pv:=fun i hi=>by have q1:ops[i]?=some ops[i]:=wN oM;exact⟨_,_,q1,by rw[wG hi];exact q1,wN (by rw[g1,hkt];exact hi)⟩
  have hnm:∀ i,i<=k->(Ob i).map Prod.fst=(ps'.objs++yZ (ops.take i)).map Prod.fst:=by
   intro i;induction i with
   |zero=>intro _;rw[g2];simp[yZ]| succ i ih =>
    (intro hi;obtain⟨o,pv,q1,q2,q3⟩:=hop i oM;have ih:=ih oM;have e:ops.take (i+1)=ops.take i++[o]:=by rw[rA,q1];rfl);rw[e,gT]
    cases g6' i o pv q2 q3 with
    |mk hmk _ hO=>rw[hO,gL,ih];simp[yZ,hmk]| eff hmk _ h0 _ _ _ hO=>rw[hO,uK (yS.2 ⟨_,xH h0,rfl⟩),ih];simp[yZ,hmk]| pure hmk _ _ hO=>rw[hO,ih];simp[yZ,hmk]
  have hnd:∀ i,i<=k->((Ob i).map Prod.fst).Nodup:=fun i hi=>by
   (rw[hnm i hi];have e:ops.take k=ops.take i++(ops.take k).drop i:=by have:=iQ i (ops.take k);rw[tE,tD hi] at this;exact this.symm);rw[e,gT,<-zQY,gL] at hndm;exact (sJ.1 hndm).1
  obtain⟨X,hXd⟩:∃ X:Nat->Obj',∀ i n x,yT es i=some n->yA (Ob (i+1)) n=some x->X i=x:=⟨fun i=>((yT es i).bind (yA (Ob (i+1)))).getD (.box []),fun i n x q1 q2=>by simp[q1,q2]⟩;have hX:∀ i n x,i<k->yT es i=some n->(n,x)∈Ob (i+1)->X i=x:=fun i n x hi q1 q2=>hXd i n x q1 (vY (hnd (i+1) oM) q2);have hXin:∀ i n x0 x,yA (Ob i) n=some x0->(n,x)∈setO (Ob i) n x:=fun i n x0 x q=>bD (yS.2 ⟨_,xH q,rfl⟩);have hOb:∀ i,i<=k->∀ y,y∈Ob i↔EMem ops es k ps'.objs X (fun j=>j<i) y:=by
   intro i;induction i with
   |zero =>
    intro _ y;rw[g2];unfold EMem;constructor;{intro q;exact .inl ⟨.inl q,fun⟨j,_,_,q⟩=>by omega⟩};{rintro (⟨q|⟨j,oj,_,q,_⟩,_⟩|⟨j,_,_,q,_⟩);{exact q};{omega};{omega}}
   |succ i ih =>
    (intro hi y;obtain⟨o,pv,q1,q2,q3⟩:=hop i oM;have ih:=ih oM;have hL:∀ j,j<i+1↔j<i\/j=i:=fun j=>by omega);cases g6' i o pv q2 q3 with
    | @mk d x hmk _ hO =>
     have hno:∀ j,j<k->yT es j=some d->¬j<i:=fun j hj hje hji=>by
      (have hjo:ops[j]?=some ops[j]:=wN oM;have hL:∀ a oa,ops[a]?=some oa->a<j->a5 (fun b=>b<j) oa:=fun a oa hoa haj e he hb=>by have:=D.back a oa hoa e he hb;omega);have:i<j:=xY (L:=fun b=>b<j) hL hjo (fun e he hb=>D.back j _ hjo e he hb) (hanc j d i o x hj hje oM q1 hmk);omega
     rw[hO,wQ,kE,EMem.mk q1 oM hmk (hmkE i o _ q1 hmk) hno hL y,ih y]
    | @eff n x x0 hmk he h0 _ _ _ hO =>
     have hxX:X i=x:=hX i n x oM he (by rw[hO];exact hXin _ _ _ _ h0);obtain⟨y1,y2⟩:=y;rw[hO,eO (hnd i oM) (yS.2 ⟨_,xH h0,rfl⟩),EMem.eff hinj q1 oM hmk he hL,ih,hxX]
    |pure hmk he _ hO=>rw[hO,EMem.pure q1 hmk he hL y,ih y]
  (rw[hkt] at g4;have hEM0:∀ y,y∈ps'.objs↔EMem ops es k ps'.objs X (Lst (Array.replicate ops.length false)) y:=fun y=>by unfold EMem;constructor;{intro q;exact .inl ⟨.inl q,fun⟨j,_,_,q⟩=>hnone j q⟩};{rintro (⟨q|⟨j,oj,_,q,_⟩,_⟩|⟨j,_,_,q,_⟩);{exact q};{exact absurd q (hnone j)};{exact absurd q (hnone j)}});refine zZA (T0:=ps'.tmps) (T2:=T2) (O0:=ps'.objs) (O2:=Ob k) (pvs:=pvs) (es:=es) (ms:=yZ (ops.take k)) (lim:=hH (qM es) ps'.objs) (X:=X) (Ob:=Ob) D hdst hk hkl (by rw[g1]) g4 g5 (hOb k (zV _)) (hnd k (zV _)) hms ?_ ?_ hinj hmkE hanc (fun i hi=>hOb i oM) g6' hX hXin
   ops.length _ (by simp) (fun j _ _=>hnone j) (fun i o _ hl=>absurd hl (hnone i)) (hunl _) (h1.go (kP h1.ld.bnd)) hEM0 ⟨fun j o t pv _ hl=>absurd hl (hnone j),fun t _=>rfl⟩
  {intro n x hx;have q1:=t9 hm.2 hx;simp only[yJ,y9] at q1;exact⟨vX q1.2,vD q1.1,fun m o q=>yK q1.2 q,fun t ht=>zDX ht (zAG g3 hx)⟩};{intro n o q;obtain⟨q1,q2⟩:=zGC _ q;refine⟨xH q2,fun i hi=>?_⟩;rw[rL (zDF (jY hi))] at q1;cases q1}
 ·(obtain⟨S1,β1,h1⟩:=hw.sound h;have D:=cK hd;have hkl:k<=ops.length:=by rcases wE ops.length k with h'|h';{obtain⟨o,ho⟩:=D.full ops.length h';simp at ho};{exact h'});simp only[apOk,y9,f8] at he;obtain⟨he1,he2⟩:=he;have hinj:∀ {i j n},yT es i=some n->yT es j=some n->i=j:=fun h1 h2=>zAI he1 h1 h2;have hes:∀ e m,(e,m)∈es->e<k/\m<1000000/\yT es e=some m:=fun e m hm=>by
   obtain⟨⟨q1,q2⟩,q3⟩:=he2 _ hm;refine⟨t7 q1,t7 q2,?_⟩;cases hl:yT es e with
   |none=>simp only[hl] at q3;cases q3
   |some n=>simp only[hl] at q3;rw[yM q3]
  obtain⟨pvs,Ob,T2,g1,g2,g3,g5,g6⟩:=zTY _ 0 hs;have g6':∀ i o pv,(ops.take k)[i]?=some o->pvs[i]?=some pv->ApStep ops es (anc ops) (hH (qM es) ps'.objs) i o (v8 ((ops.take k).take i) (pvs.take i) (zA ps'.tmps)) pv (Ob i) (Ob (i+1)):=fun i o pv q1 q2=>by have:=g6 i o pv q1 q2;rw[xA] at this;exact this
  (have hkt:(ops.take k).length=k:=by simp;omega);have hop:∀ i,i<k->∃ o pv,ops[i]?=some o/\(ops.take k)[i]?=some o/\pvs[i]?=some pv:=fun i hi=>by have q1:ops[i]?=some ops[i]:=wN oM;exact⟨_,_,q1,by rw[wG hi];exact q1,wN (by rw[g1,hkt];exact hi)⟩
  have hnm:∀ i,i<=k->(Ob i).map Prod.fst=ps'.objs.map Prod.fst:=by
   intro i;induction i with
   |zero=>intro _;rw[g2]| succ i ih =>
    intro hi;obtain⟨o,pv,q1,q2,q3⟩:=hop i oM;have ih:=ih oM;cases g6' i o pv q2 q3 with
    |app _ _ _ h0 _ _ _ _ _ hO=>rw[hO,uK (yS.2 ⟨_,xH h0,rfl⟩),ih]| pure _ _ hO=>rw[hO,ih]
  have hnd:∀ i,i<=k->((Ob i).map Prod.fst).Nodup:=fun i hi=>by rw[hnm i hi];exact h1.obj.nd
  
  have hbef:∀ i,i<=k->∀ n,(∀ j,yT es j=some n->i<=j)->yA (Ob i) n=yA ps'.objs n:=by
   intro i;induction i with
   |zero=>intro _ n _;rw[g2]| succ i ih =>
    intro hi n hn;obtain⟨o,pv,q1,q2,q3⟩:=hop i oM;have ih:=ih oM n (fun j hj=>by have:=hn j hj;omega);cases g6' i o pv q2 q3 with
    | @app m _ _ _ _ _ he' _ _ _ _ _ _ _ _ hO =>
     rw[hO,cU (fun e=>?_),ih];subst e;have:=hn i he';omega
    |pure _ _ hO=>rw[hO,ih]
  have haft:∀ d i,i+d<=k->∀ n,(∀ j,yT es j=some n->j<i)->yA (Ob (i+d)) n=yA (Ob i) n:=by
   intro d;induction d with
   |zero=>intro i _ n _;rfl
   |succ d ih =>
    intro i hi n hn;obtain⟨o,pv,q1,q2,q3⟩:=hop (i+d) oM;have ih:=ih i oM n hn;cases g6' (i+d) o pv q2 q3 with
    | @app m _ _ _ _ _ he' _ _ _ _ _ _ _ _ hO =>
     rw[show i+(d+1)=i+d+1 by omega,hO,cU (fun e=>?_),ih];subst e;have:=hn _ he';omega
    |pure _ _ hO=>rw[show i+(d+1)=i+d+1 by omega,hO,ih]
  have hX:∀ i n x x0,i<k->yT es i=some n->yA (Ob i) n=some x0->Ob (i+1)=setO (Ob i) n x->(yA (Ob k) n).getD (.box [])=x:=fun i n x x0 hi he' h0 hO=>by
   (have e1:yA (Ob (i+1)) n=some x:=by refine vY (hnd _ oM) ?_;rw[hO];exact bD (yS.2 ⟨_,xH h0,rfl⟩));have e2:=haft (k-(i+1)) (i+1) oM n (fun j hj=>by have:=hinj hj he';omega);rw[show i+1+(k-(i+1))=k by omega,e1] at e2;rw[e2];rfl
  have hfinO:∀ y,y∈y5 (scC (qM es)) (Ob k)↔AMem es ps'.objs (fun n=>(yA (Ob k) n).getD (.box [])) (fun j=>decide (j<k)) y:=fun y=>by
   (have hPS:∀ m,z8 m (PL (fun j=>decide (j<k)) es)=z8 m (qM es):=fun m=>by rw[aZ,fH,fH,dH,tP];exact⟨fun⟨e,h1,_⟩=>⟨e,h1⟩,fun⟨e,h1⟩=>⟨e,h1,by simpa using (hes e m h1).1⟩⟩);rw[bE];unfold AMem;rw[hPS,zLO hPS];have hname:∀ n,(∃ o,(n,o)∈Ob k)↔∃ o,(n,o)∈ps'.objs:=fun n=>by
    (have e:∀ l:List (Nat×Obj'),(∃ o,(n,o)∈l)↔n∈l.map Prod.fst:=fun l=>by rw[yS];exact⟨fun⟨o,h⟩=>⟨_,h,rfl⟩,fun⟨⟨a,b⟩,h,e⟩=>⟨b,by simp only at e;rw[<-e];exact h⟩⟩);rw[e,e,hnm k (zV _)]
   cases hy:z8 y.1 (qM es) with
   |true =>
    constructor;{rintro⟨o,q1,q2⟩;obtain⟨o',q3⟩:=(hname _).1 ⟨o,q1⟩;refine⟨o',q3,?_⟩;show y.2=scO (qM es) ((yA (Ob k) y.1).getD (.box []));rw[vY (hnd k (zV _)) q1];exact q2};{rintro⟨o,q1,q2⟩;obtain⟨o',q3⟩:=(hname _).2 ⟨o,q1⟩;refine⟨o',q3,?_⟩;have q2':y.2=scO (qM es) ((yA (Ob k) y.1).getD (.box [])):=q2;rw[vY (hnd k (zV _)) q3] at q2';exact q2'}
   |false =>
    (have hnn:∀ j,yT es j=some y.1->k<=j:=fun j hj=>by have:=rL (tP.2 ⟨j,jY hj⟩);rw[this] at hy;cases hy);have hg:=hbef k (zV _) y.1 hnn;constructor
    {rintro⟨o,q1,q2⟩;rw[vY (hnd k (zV _)) q1] at hg;exact⟨o,xH hg.symm,q2⟩};{rintro⟨o,q1,q2⟩;rw[vY h1.obj.nd q1] at hg;exact⟨o,xH hg,q2⟩}
  have hP0:PL (fun i=>(Array.replicate ops.length false).getD i false) es=[]:=by
   (have:∀ m,m∉PL (fun i=>(Array.replicate ops.length false).getD i false) es:=fun m hm=>by obtain⟨e,_,q⟩:=dH.1 hm;exact hnone e q);exact List.eq_nil_iff_forall_not_mem.2 this
  rw[hkt] at g3;refine zY9 (T0:=ps'.tmps) (T2:=T2) (O0:=ps'.objs) (O2:=y5 (scC (qM es)) (Ob k)) (pvs:=pvs) (es:=es) (X:=fun n=>(yA (Ob k) n).getD (.box [])) (Ob:=Ob) D hdst hk hkl (by rw[g1]) g3 g5 hfinO (by rw[gX];exact hnd k (zV _)) hes hinj g6'
   (fun i n x0 hi he' h0=>by rw[hbef i oM n (fun j hj=>by have:=hinj hj he';omega)] at h0;exact xH h0) hX h1.obj.nd
   ops.length (Array.replicate ops.length false) (G:=ps'.tmps) (objs':=y5 (scC []) ps'.objs) (S:=S1) (β:=β1) (by simp) (fun j _ _=>hnone j) (fun i o _ hl=>absurd hl (hnone i)) (hunl _) ?_ ?_ ⟨fun j o t pv _ hl=>absurd hl (hnone j),fun t _=>rfl⟩
  {refine ((h1.go (kP h1.ld.bnd))).weak (fun t v hr=>?_) (by rw[gX];exact h1.obj.nd) fun n o' hm=>?_;{rw[hP0,qR];exact m7 hr};{obtain⟨o1,q1,q2⟩:=(bE _).1 hm;simp only at q1 q2;exact⟨o1,q1,fun h=>by rw[q2];exact zS2 h,fun i h=>by rw[q2];exact zNV h,fun b hb=>by rw[q2] at hb;exact v6 hb⟩}};{intro y;rw[bE];unfold AMem;rw[hP0];rfl}
 ·obtain⟨S1,β1,h1⟩:=hw.sound h;have:=zH1 hsel hdst ops.length _ ps' hs (h1.go (kP h1.ld.bnd));rw[List.toArray_replicate] at this;refine zAU (fun e a w q=>?_) _ _ _ _ this;cases e with
  |normal=>obtain⟨ps2,S2,β2,⟨s,q0,q1⟩,q2⟩:=q;obtain⟨S3,β3,q3⟩:=q1.sound q2;exact hk _ _ _ _ _ (hks s q0) q3
  |_=>exact q.elim
end
end Go.Proofs.YtfainocfaddbdaaGreat
