/- A part of the proof: PmP. -/
import Derived.Test.YtboocdbmnfjomaaGreatV11
set_option linter.all false
namespace Go.Proofs.YtboocdbmnfjomaaGreat
open Go
def pM (L:Nat->Prop) (o:Oper):Prop:=∀ e,e∈o.after.toList->Region.binds .any e=true->L e.on
theorem Hw {acc:List Nat}{o:Oper}{j:Nat}(h:(i4 acc o).testBit j=true):∃ e,e∈o.after.toList/\Region.binds .any e=true/\(e.on=j\/(acc.getD e.on 0).testBit j=true):=by
 unfold i4 at h;have gen:∀ (l:List Edge) (s:Nat),(l.foldl (λs e=>if Region.binds .any e then s ||| (2^e.on ||| acc.getD e.on 0) else s) s).testBit j=true->s.testBit j=true\/∃ e,e∈l/\Region.binds .any e=true/\(e.on=j\/(acc.getD e.on 0).testBit j=true):=by
  intro l;induction l with
  |nil=>grind| cons e l ih =>
   intro s h;simp only[F2] at h;rcases ih _ h with h1|⟨e',h1,h2⟩
   ·by_cases hb:Region.binds .any e=true
    all_goals grind
   grind
 grind
theorem B4 {L:Nat->Prop}{ops:List Oper}(hL:∀ i o,ops[i]?=some o->L i->pM L o):∀ (r done:List Oper) (acc:List Nat),ops=done++r->acc.length=done.length ->(∀ i o j,i<acc.length->ops[i]?=some o->pM L o->(acc.getD i 0).testBit j=true->L j) ->∀ i o j,ops[i]?=some o->pM L o->((B5 r acc).getD i 0).testBit j=true->L j
 |[],done,acc,he,hl,h,i,o,j,hi,hE,hb=>by refine h i o j ?_ hi hE hb;grind| x::r,done,acc,he,hl,h,i,o,j,hi,hE,hb=>by
  refine B4 hL r (done++[x]) (acc++[i4 acc x]) (by simp[he]) (by simp[hl]) ?_ i o j hi hE hb;intro i o j hlt hi hE hb;by_cases h1:i<acc.length
  ·(have:(acc++[i4 acc x]).getD i 0=acc.getD i 0:=by grind);grind
  ·(have h2:i=acc.length:=by grind);subst h2
   (have:(acc++[i4 acc x]).getD acc.length 0=i4 acc x:=by simp);rw[this] at hb
   (have hx:ops[acc.length]?=some x:=by grind);rw[hx] at hi
   (cases hi;obtain⟨e,h3,h4,h5⟩:=Hw hb;have hLe:=hE e h3 h4;rcases h5 with h5|h5);{grind}
   ·by_cases h6:e.on<acc.length
    ·(have hlo:e.on<ops.length:=by grind);have ho:ops[e.on]?=some ops[e.on]:=uW hlo
     grind
    ·(have:acc.getD e.on 0=0:=by simp only[wM];grind);grind
theorem x8 {L:Nat->Prop}{ops:List Oper}(hL:∀ i o,ops[i]?=some o->L i->pM L o){i j:Nat}{o:Oper}(hi:ops[i]?=some o)(hE:pM L o)(hb:((anc ops).getD i 0).testBit j=true):L j :=
 B4 hL ops [] [] rfl rfl (λi o j h=>by simp at h) i o j hi hE hb
def unl (L:Array Bool):Nat->Nat
 |0=>0| n+1=>unl L n+(if L.getD n true=true then 0 else 1)
theorem Y4 {L:Array Bool}{i:Nat}:∀ {n:Nat},n<=i->unl (L.setIfInBounds i true) n=unl L n
 |0,_=>rfl| n+1,h=>by simp only[unl];rw[Y4 oM,getD_set_ne true oM]
theorem YA {L:Array Bool}{i:Nat}(hi:L.getD i true=false):∀ {n:Nat},i<n->unl (L.setIfInBounds i true) n+1=unl L n
 |0,h=>by omega| n+1,h=>by
  simp only[unl];by_cases e:i=n
  ·(subst e;have hs:i<L.size:=by grind);rw[Y4 (yQ _),hi]
   simp_all
  {have:=YA hi (n:=n) oM;rw[getD_set_ne true e];omega}
theorem eN {L:Array Bool}:∀ {n:Nat},unl L n=0->∀ i,i<n->L.getD i true=true
 |0,_,i,h=>by omega| n+1,h0,i,h=>by simp only[unl] at h0;by_cases e:i=n;{grind};{exact eN (n:=n) oM i oM}
theorem vX {L:Array Bool}{i:Nat}(hi:i<L.size)(d e:Bool):L.getD i d=L.getD i e:=by simp[hi]
section
variable {w0:World} {S0:Nat->Nat->Prop} {K0:Nat->Prop} {N:Cx}
structure DrawOk (ops:List Oper) (k:Nat):Prop where
 dst:dQ (ops.take k)=true
 look:∀ i o t j oj,i<k->j<k->ops[i]?=some o->ops[j]?=some oj->t∈qR ops o->oj.dst=some t->(j<i/\((anc ops).getD i 0).testBit j=true)\/(i<j/\((anc ops).getD j 0).testBit i=true)
 full:∀ i,i<k->∃ o,ops[i]?=some o
 back:∀ i o,ops[i]?=some o->∀ e,e∈o.after.toList->Region.binds .any e=true->e.on<i
 rest:∀ i j,i<ops.length->k<=i->j<i->((anc ops).getD i 0).testBit j=true
theorem mX {ops:List Oper}{k:Nat}(h:fG ops k=true):DrawOk ops k:=by simp only[fG,xA,bX,sZ] at h;obtain⟨⟨⟨h1,h2⟩,h3⟩,h4⟩:=h;refine⟨h1,?_,?_,?_,?_⟩;{intro i o t j oj hi hj ho hoj ht hd;have:=h2 i hi;simp only[ho,bX,sZ] at this;have:=this t ht j hj;simp only[hoj,hd,BEq.rfl,Bool.not_true,rL,QL,xA,decide_eq_true_eq] at this;omega};{grind};{grind};grind
structure At (ops:List Oper) (k:Nat) (pvs:List PV) (τ0:Nat->PV) (L:Nat->Prop) (τ:Nat->PV):Prop where
 hit:∀ j o t pv,j<k->L j->ops[j]?=some o->pvs[j]?=some pv->o.dst=some t->τ t=pv
 miss:∀ t,(∀ j o,j<k->L j->ops[j]?=some o->o.dst≠some t)->τ t=τ0 t
theorem At.step {ops:List Oper}{k:Nat}{pvs:List PV}{τ0:Nat->PV}{L L':Nat->Prop}{τ:Nat->PV}(D:DrawOk ops k)(h:At ops k pvs τ0 L τ){i:Nat}{o:Oper}{pv:PV}(hi:i<k)(ho:ops[i]?=some o)(hp:pvs[i]?=some pv) (hL':∀ j,L' j↔L j\/j=i):At ops k pvs τ0 L' (upd τ o.dst pv):=by
 have hne:∀ j oj t,j<k->ops[j]?=some oj->oj.dst=some t->o.dst=some t->j=i:=λj oj t hj hoj hd hd' =>
  pI D.dst (by grind) (by grind) hd hd'
 refine⟨λj oj t pv' hj hLj hoj hpj hd=>?_,λt ht=>?_⟩
 ·by_cases hji:j=i;{subst hji;rw[ho] at hoj;cases hoj;rw[hp] at hpj;cases hpj;simp[upd,hd]}
  ·have hLj':=((hL' j).1 hLj).resolve_right hji;rw[<-h.hit j oj t pv' hj hLj' hoj hpj hd];cases hd':o.dst with
   |none=>rfl| some d =>
    grind [upd]
 ·have h1:τ t=τ0 t:=h.miss t λj oj hj hLj hoj=>ht j oj hj ((hL' j).2 (.inl hLj)) hoj;rw[<-h1];cases hd':o.dst with
  |none=>rfl| some d =>
   have:t≠d:=λe=>ht i o hi ((hL' i).2 (.inr rfl)) ho (by grind);grind [upd]
theorem At.text {ops:List Oper}{k:Nat}{pvs:List PV}{τ0:Nat->PV}(D:DrawOk ops k)(hl:pvs.length=(ops.take k).length)(i:Nat)(hi:i<=k):At ops k pvs τ0 (λj=>j<i) (uH ((ops.take k).take i) (pvs.take i) τ0):=by
 have htt:(ops.take k).take i=ops.take i:=by grind
 have hdo:dQ (ops.take i)=true:=by rw[<-htt];exact Yl i D.dst
 refine⟨λj o t pv hj hLj ho hp hd=>?_,λt ht=>?_⟩;{rw[htt];exact QS hdo (by rw[uX hLj];exact ho) (by grind) hd};grind [Vq]
theorem At.same {ops:List Oper}{k:Nat}{pvs:List PV}{τ0:Nat->PV}{L L':Nat->Prop}{τ τ':Nat->PV}(D:DrawOk ops k)(hlen:k<=pvs.length)(h:At ops k pvs τ0 L τ)(h':At ops k pvs τ0 L' τ'){t:Nat}(ht:∀ j o,j<k->ops[j]?=some o->o.dst=some t->(L j/\L' j)\/(¬L j/\¬L' j)):τ t=τ' t:=by
 by_cases hx:∃ j o,j<k/\ops[j]?=some o/\o.dst=some t
 ·obtain⟨j,o,hj,ho,hd⟩:=hx;rcases ht j o hj ho hd with⟨h1,h2⟩|⟨h1,h2⟩;{have hp:pvs[j]?=some pvs[j]:=uW oM;rw[h.hit j o t _ hj h1 ho hp hd,h'.hit j o t _ hj h2 ho hp hd]}
  ·have key:∀ j' o',j'<k->ops[j']?=some o'->o'.dst=some t->j'=j:=λj' o' hj' ho' hd' =>
    pI D.dst (by grind) (by grind) hd' hd
   rw[h.miss t λj' o' hj' hL ho' hd'=>h1 (key j' o' hj' ho' hd' ▸ hL),h'.miss t λj' o' hj' hL ho' hd'=>h2 (key j' o' hj' ho' hd' ▸ hL)]
 {rw[h.miss t λj o hj _ ho hd=>hx ⟨j,o,hj,ho,hd⟩,h'.miss t λj o hj _ ho hd=>hx ⟨j,o,hj,ho,hd⟩]}
section
variable {a:Act} {w:World} {S:Nat->Nat->Prop} {β:Bm}
theorem Sim.newObjG {τ:Nat->PV}{objs:List (Nat×Obj')}{w':World}(h:Sim w0 S0 K0 N τ objs a w S β){n b:Nat}{o:Obj'}(hn:n<1000000)(hT:∀ t,xN n (τ t)=true)(hO:∀ {m x},(m,x)∈objs->m≠n/\bE n x)(l:Leads w S qJ w' S)(hb:w.heap.size<=b)(hb':b<w'.heap.size) (hat:ObjAt w' S (kY β n (some b)) n o) (hr:∀ i,¬vG o i:=by intro _ hi;exact hi):Sim w0 S0 K0 N τ (objs++[(n,o)]) a w' S (kY β n (some b)):=by
 have hmem:∀ {m x},(m,x)∈objs++[(n,o)]->((m,x)∈objs/\m≠n)\/(m=n/\x=o):=by grind
 have hg:=h.go l;refine⟨h.dfr,h.sz,hg.ld,λt=>(hg.tmp t).upd (hT t),⟨?_,?_,?_,?_⟩,?_,?_⟩;{rw[qS,l9];refine⟨h.obj.nd,by simp,?_⟩;grind};{intro m x hm;rcases hmem hm with⟨h1,h2⟩|⟨rfl,rfl⟩;{exact (hg.obj.at_ m x h1).upd h2 (hO h1).2};omega};{intro m x c hm hβ;rcases hmem hm with⟨h1,h2⟩|⟨rfl,rfl⟩;{exact hg.obj.un m x c h1 (w9 h2 hβ)};{have hβ:=xF hr hβ;rw[y8] at hβ;cases hβ;exact⟨λi hS=>by have:=h.ld.bnd b i hS;omega,hb'⟩}};{intro m x m' x' c hm hm' hβ hβ';rcases hmem hm with⟨h1,h2⟩|⟨rfl,rfl⟩;{rcases hmem hm' with⟨h3,h4⟩|⟨rfl,rfl⟩;{exact hg.obj.inj _ _ _ _ c h1 h3 (w9 h2 hβ) (w9 h4 hβ')};{have hβ':=xF hr hβ';rw[y8] at hβ';cases hβ';have:=(h.obj.un m x b h1 (w9 h2 hβ)).2;omega}};{rcases hmem hm' with⟨h3,h4⟩|⟨rfl,rfl⟩;{have hβ:=xF hr hβ;rw[y8] at hβ;cases hβ;have:=(h.obj.un m' x' b h3 (w9 h4 hβ')).2;omega};{rfl}}};{intro m x c hm hβ;rcases hmem hm with⟨h1,h2⟩|⟨rfl,rfl⟩;{exact h.own m x c h1 (w9 h2 hβ)};{have hβ:=xF hr hβ;rw[y8] at hβ;cases hβ;have:=h.ld.size;omega}};{intro m x hm hb2;rcases hmem hm with⟨h1,h2⟩|⟨rfl,rfl⟩;{rw[w4 h2];exact h.keep m x h1 hb2};{omega}}
theorem QO {Q:List PV->Prop}{t:TypeId}(hno:(ty t).isNo=false)(h0:Q [])(hc:∀ v l,Q l->Q (w7 v::l))(hn:Q [.nil]):Q (ty t).zero:=by
 cases hty:ty t with
 |no=>grind [Ty.isNo]| sc z=>obtain⟨_,_,zv',_,_,_,_,_,_,h7,_⟩:=Vr hty;rw[h7];exact hc _ _ h0
 |st n fs z =>
  obtain⟨_,_,zs,_,_,_,_,_,_,h7,_⟩:=Y5 hty;rw[h7];simp only[Ty.zero];generalize zs.toList=l;induction l with
  |nil=>exact h0| cons x l ih=>exact hc _ _ ih
 |arr len n ag z =>
  obtain⟨_,_,zs,_,_,_,_,_,_,_,_,_,_,h7⟩:=iB hty;rw[h7];simp only[Ty.zero];generalize zs.toList=l;induction l with
  |nil=>exact h0| cons x l ih=>exact hc _ _ ih
 |sli n b z=>exact hn
theorem Vn {d:Nat}{t:TypeId}(hno:(ty t).isNo=false):wL d (ty t).zero=true :=
 QO (Q:=λl=>wL d l=true) hno rfl (λv l ih=>by simp only[wL,yX,xA];exact⟨by unfold w7;split <;> rfl,ih⟩) rfl
theorem M8 {o:Oper}{d:Nat}{x:Obj'}{τ:Nat->PV}{objs:List (Nat×Obj')}{Km:Act->World->Prop}{Q:Exit->Act->World->Prop}(hm:vD o=some (d,x))(hd:tV N o=true)(h:Sim w0 S0 K0 N τ objs a w S β) (hn:d<1000000) (hT:∀ t,xN d (τ t)=true) (hO:∀ {m y},(m,y)∈objs->m≠d/\bE d y) (hk:∀ a' w' β',Sim w0 S0 K0 N (upd τ o.dst (.ptr d 0)) (objs++[(d,x)]) a' w' S β'->Km a' w'):o.wp Pg a w Km Q:=by
 obtain⟨hg,hod,t,hop,hno,rfl⟩:=gY hm;obtain⟨i,zv,h1,h2,h3⟩:=HH (w:=w) (S:=S) (β:=β) hno;have hz:wL d (ty t).zero=true:=Vn hno;have l:=uC (w:=w) h.ld.bnd (.cells zv.cells t);have hnw:=h.newObjG (w':=w.alloc (.cells zv.cells t)) (b:=w.heap.size) (o:=.box (ty t).zero) hn hT hO l (yQ _) (by simp) ⟨w.heap.size,zv.cells,t,y8,heap_alloc_new w _,h3.1,λj hj =>
  ((h3.2 j hj).evo (l.evo h.ld.bnd) (l.subs h.ld.bnd)).upd (xS rfl hz j)⟩
 refine jG (v:=.pointer (some ⟨w.heap.size,0,none⟩)) (w':=w.alloc (.cells zv.cells t)) ?_ ?_;{simp[execOp,hop,Instr.alloc,mF h1 h2,newVar,newRow]};{exact hk _ _ _ (hnw.put o.dst (pJ hd) (.ptr y8))}
theorem Sim.perm {τ:Nat->PV}{objs objs':List (Nat×Obj')}(h:Sim w0 S0 K0 N τ objs a w S β)(hm:∀ x,x∈objs'↔x∈objs)(hnd:(objs'.map Prod.fst).Nodup):Sim w0 S0 K0 N τ objs' a w S β :=
 ⟨h.dfr,h.sz,h.ld,h.tmp,⟨hnd,λn o hx=>h.obj.at_ n o ((hm _).1 hx),λn o b hx=>h.obj.un n o b ((hm _).1 hx),λn o m o' b hx hy=>h.obj.inj n o m o' b ((hm _).1 hx) ((hm _).1 hy)⟩,
  λn o b hx=>h.own n o b ((hm _).1 hx),λn o hx=>h.keep n o ((hm _).1 hx)⟩
theorem uE:∀ {l:List (Nat×Obj')} {n:Nat} {o:Obj'},(l.map Prod.fst).Nodup->(n,o)∈l->yK l n=some o
 |[],n,o,_,h=>by simp at h| (u,v)::r,n,o,hnd,h=>by simp only[kK,WX] at hnd;simp only[yS] at h;unfold yK;rcases h with h|h;{simp_all};{have:u≠n:=λe=>hnd.1 (by grind);rw[Ha this];exact uE hnd.2 h}
end
theorem iG {o:Oper}{τ:Nat->PV}{objs:List (Nat×Obj')}{a:Act}{w:World}{S:Nat->Nat->Prop}{β:Bm}{K:PV->Prop}{Km:Act->World->Prop}{Q:Exit->Act->World->Prop}(h:Sim w0 S0 K0 N τ objs a w S β)(hs:gE false objs o.op (ev τ) K) (hk:∀ pv w' S' v,K pv->Leads w S qJ w' S'->Rep w' S' β v pv->Km (a.put o.dst v) w'):o.wp Pg a w Km Q:=by
 unfold gE at hs;cases hi:l5 o.op with
 |false=>grind [Zn]| true =>
  rw[hi] at hs;obtain⟨c',hc1,hc2⟩:=KC hi;obtain⟨c,b,x,t,tx,n,bb,z,hop,h1,h2,h3,h4,h5,h6⟩:=QA hs;grind [Qy]
theorem Q2 {nb:Bool}{o:Oper}{τ:Nat->PV}{objs:List (Nat×Obj')}{a:Act}{w:World}{S:Nat->Nat->Prop}{β:Bm}{K:PV->Prop}{Km:Act->World->Prop}{Q:Exit->Act->World->Prop}(h:Sim w0 S0 K0 N τ objs a w S β)(hs:gE nb objs o.op (ev τ) K) (hk:∀ pv w' S' β' v,K pv->Sim w0 S0 K0 N τ objs a w' S' β'->Rep w' S' β' v pv->Km (a.put o.dst v) w'):o.wp Pg a w Km Q:=by
 have fin:gE false objs o.op (ev τ) K->o.wp Pg a w Km Q:=λhs=>iG h hs λpv w' S' v hK l hr=>hk pv w' S' β v hK (h.go l) hr;cases nb with
 |false=>grind| true =>
  cases hi:l5 o.op with
  |true=>grind [gE]| false =>
   (have hs':iF objs o.op (ev τ) K:=by grind [gE]);rcases nJ hs' with⟨h1,h2⟩|⟨c,f,g,caps,h1,h2,h3,h4,h5⟩
   {grind [gE]};{rcases h5.h with⟨args',r,q1,q2,q3,q4⟩|⟨_,hn,cargs,kept,r,q1,q2,q3,q4,q5,q6,q7,q8,q9,q10⟩;{exact m7 h1 h2 h h4 ⟨args',r,q1,q2,q3,q4⟩ λpv w' S' v hK l hr=>hk pv w' S' β v hK (h.go l) hr};grind [Je]}
theorem s6 {ops:List Oper}{Q:Exit->Act->World->Prop}{i:Nat}{o:Oper}{a:Act}{w:World}{Km:Act->World->Prop}(ho:ops[i]?=some o) (h:(Region.wanted o (yielded ops.toArray a.tmps)=true/\o.wp Pg a w Km Q)\/(Region.wanted o (yielded ops.toArray a.tmps)=false/\Km (a.put o.dst undef) w)):wpOp Pg ops.toArray Q i Km a w:=by unfold wpOp;grind
def Lst (L:Array Bool) (j:Nat):Prop:=L.getD j false=true
theorem qF {L:Array Bool}{i:Nat}(hi:i<L.size)(j:Nat):Lst (L.setIfInBounds i true) j↔Lst L j\/j=i:=by unfold Lst;by_cases e:j=i;{simp_all};{rw[getD_set_ne false (Ne.symm e)];simp[e]}
theorem Ud {ops:List Oper}{k:Nat}(D:DrawOk ops k){Q:Exit->Act->World->Prop}{K:PS->Prop}(hdst:∀ o,o∈ops->tV N o=true)(hk:∀ ps' a' w' S' β',K ps'->Sim w0 S0 K0 N (zD ps'.tmps) ps'.objs a' w' S' β'->Q .normal a' w'):∀ (fuel m:Nat) (L:Array Bool) {ps:PS} {a:Act} {w:World} {S:Nat->Nat->Prop} {β:Bm},k<=m->m<=ops.length->L.size=ops.length->(∀ j,j<ops.length->(Lst L j↔j<m))->ops.length<=m+fuel ->Sim w0 S0 K0 N (zD ps.tmps) ps.objs a w S β->jB ops (ops.drop m) ps K->wpAny Pg .any ops.toArray Q fuel L a w:=by
 intro fuel;induction fuel with
 |zero =>
  (intro m L ps a w S β hkm hm hsz hL hf h hs;have hme:m=ops.length:=by omega);have hr:Region.ready .any ops.toArray L=[]:=by
   (rw[List.eq_nil_iff_forall_not_mem];intro i hi;obtain⟨h1,o,h2,_⟩:=mem_ready.1 hi;have hlt:i<ops.length:=by grind);have:=(hL i hlt).2 oM
   unfold Lst at this;grind
  refine⟨hr,?_⟩;rw[hme,vE] at hs;exact hk _ _ _ _ _ hs h
 |succ fuel ih =>
  (intro m L ps a w S β hkm hm hsz hL hf h hs;have closed:∀ i o,ops[i]?=some o->Lst L i->pM (Lst L) o:=by intro i o ho hi e he hb;have hlt:=(w8.1 ho).1;have h1:=D.back i o ho e he hb;grind);refine⟨λhr=>?_,λi hi=>?_⟩
  ·by_cases hme:m=ops.length;{rw[hme,vE] at hs;exact hk _ _ _ _ _ hs h}
   ·(exfalso;have hlt:m<ops.length:=by omega);have hin:m∈Region.ready .any ops.toArray L:=by
     refine mem_ready.2 ⟨?_,ops[m],by grind,λe he hb=>?_⟩
     ·rw[vX oM true false];cases hx:L.getD m false with
      |false=>rfl| true=>have:=(hL m hlt).1 hx;omega
     {have h1:=D.back m _ (uW hlt) e (by grind) hb;exact (hL e.on oM).2 h1}
    grind
  ·(obtain⟨h1,o,h2,h3⟩:=mem_ready.1 hi;have ho:ops[i]?=some o:=by grind);have hlt:i<ops.length:=(w8.1 ho).1
   (have him:m<=i:=by rcases uG i m with h'|h';{have:=(hL i hlt).2 h';unfold Lst at this;grind};omega);have hie:i=m:=by rcases uG m i with h'|h';{have hb:=D.rest i m hlt oM h';have:=x8 closed ho (λe he hb=>h3 e (by grind) hb) hb;grind};{omega}
   (subst hie;have hdrop:ops.drop i=o::ops.drop (i+1):=by grind [List.drop_eq_getElem_cons]);rw[hdrop] at hs
   (simp only[jB] at hs;have hL2:∀ j,j<ops.length->(Lst (L.setIfInBounds i true) j↔j<i+1):=by grind [qF]);have hdo:=pJ (hdst o (yE ho))
   refine s6 ho ?_;rcases dN h.tmp hs with⟨hw,hA⟩|⟨hw,hB⟩;{exact .inl ⟨hw,cL h hA hdo λps' a' w' S' β' hK hsim=>by obtain⟨ps'',hK',hsim'⟩:=Yd hsim hK;grind⟩};{exact .inr ⟨hw,ih (i+1) _ oM oM (by grind) hL2 oM (vC h o.dst hdo (eX _ _ _)) hB⟩}
theorem pE {m n:Nat}{o:Obj'}:∀ {l:List (Nat×Obj')},yK (xK l m) n=some o->n≠m/\yK l n=some o
 |[],h=>by grind [xK,yK]| (u,v)::r,h=>by
  unfold xK at h;cases hu:nqb u m with
  |true =>
   rw[hu] at h;obtain⟨h1,h2⟩:=pE h;grind [yK,nqb]
  |false =>
   rw[hu] at h;unfold yK at h ⊢;cases hx:nqb u n with
   |true =>
    grind
   |false =>
    rw[hx] at h;exact pE h
theorem oW {m n:Nat}{o x:Obj'}(hne:m≠n):∀ {l:List (Nat×Obj')},yK l n=some o->yK (setO l m x) n=some o
 |[],h=>by grind [yK]| (u,v)::r,h=>by
  unfold setO;cases hu:nqb u m with
  |true =>
   grind [yK,nqb]
  |false =>
   unfold yK at h ⊢;show (match nqb u n with|true=>some v|false=>yK (setO r m x) n)=some o;cases hx:nqb u n with
   |true=>grind| false=>rw[hx] at h;exact oW hne h
theorem Xc {objs objs':List (Nat×Obj')}{all:List Oper}{o:Oper}{τ:Nat->PV}{pv:PV}(hx:∀ n o,yK objs n=some o->yK objs' n=some o)(h:vL false objs all o τ pv):vL false objs' all o τ pv :=
 mU (λh=>Vz hx h) id h
theorem Df {all:List Oper}{us:List Nat}{n:Nat}{K:PS->Prop}:∀ (l:List Oper) (i:Nat) {ps:PS},GW all us n l i ps K->∃ pvs ps',pvs.length=l.length/\K ps'/\ps'.objs=ps.objs/\zD ps'.tmps=uH l pvs (zD ps.tmps) /\ ∀ j o pv,l[j]?=some o->pvs[j]?=some pv->vL false ps.objs all o (uH (l.take j) (pvs.take j) (zD ps.tmps)) pv/\(yM (i+j) us=true->vL false (xK ps.objs n) all o (uH (l.take j) (pvs.take j) (zD ps.tmps)) pv)
 |[],i,ps,h=>⟨[],ps,rfl,h,rfl,rfl,λj o pv h=>by simp at h⟩| o::r,i,ps,h=>by
  simp only[GW] at h;have hdel:∀ m y,yK (xK ps.objs n) m=some y->yK ps.objs m=some y:=λm y q=>(pE q).2;obtain⟨pv,ps1,h1,ho1,ht1,h2,h3⟩:∃ pv ps1,GW all us n r (i+1) ps1 K/\ps1.objs=ps.objs/\zD ps1.tmps=upd (zD ps.tmps) o.dst pv/\vL false ps.objs all o (zD ps.tmps) pv/\(yM i us=true->vL false (xK ps.objs n) all o (zD ps.tmps) pv):=by
   (have fin:∀ (objs:List (Nat×Obj')),objs=(match yM i us with|true=>xK ps.objs n|false=>ps.objs)->∀ pv:PV,vL false objs all o (zD ps.tmps) pv->vL false ps.objs all o (zD ps.tmps) pv/\(yM i us=true->vL false (xK ps.objs n) all o (zD ps.tmps) pv):=λobjs he pv hs=>by grind [Xc]);rcases t8 h with⟨pv,q1,q2⟩|⟨q1,q2⟩
   {obtain⟨pv',ps',g1,g2,g3,g4⟩:=mN q1;grind};{exact⟨.tup [],_,q1,kG _ _ _,xJ _ _ _,fin _ rfl _ q2⟩}
  obtain⟨pvs,ps',g1,g2,g3,g4,g5⟩:=Df r (i+1) h1;refine⟨pv::pvs,ps',by simp[g1],g2,g3.trans ho1,by rw[g4,ht1];rfl,λj o' pv' hj hp=>?_⟩;cases j with
  |zero =>
   simp only[l8,t5] at hj hp;subst hj hp;exact⟨h2,h3⟩
  |succ j =>
   simp only[m8] at hj hp;have:=g5 j o' pv' hj hp;rw[ho1,ht1] at this;rw[show i+(j+1)=i+1+j by omega];exact this
theorem Dv {o:Oper}{ts:TypeId}{ad v:Operand}{T:List (Nat×PV)}{objs:List (Nat×Obj')}{K:PS->Prop}(hop:o.op=.store ts ad v)(hd:o.dst=none)(h:dX o ⟨T,objs⟩ K){us:List Nat}{nn:Nat}(hto:Pi us nn o ⟨T,objs⟩=true):∃ objs2,(us≠[]->∀ m y,yK (xK objs nn) m=some y->yK objs2 m=some y)/\K ⟨T,objs2⟩/\∀ (K':PS->Prop) T',(∀ x,x∈o.op.operands.toList->ev (zD T') x=ev (zD T) x)->K' ⟨T',objs2⟩->dX o ⟨T',objs⟩ K':=by
 have hev:∀ {T'},(∀ x,x∈o.op.operands.toList->ev (zD T') x=ev (zD T) x)->ev (zD T') ad=ev (zD T) ad/\ev (zD T') v=ev (zD T) v:=λhx =>
  ⟨hx ad (by grind [Op.operands]),hx v (by grind [Op.operands])⟩
 have hkey:us≠[]->∀ m':Nat,(∀ off,ev (zD T) ad=.ptr m' off->m'=nn)/\(∀ s i off,ev (zD T) ad=.aptr m' s i off->m'=nn):=λhu m'=>by
  unfold Pi at hto;cases us with
  |nil=>grind| cons u r =>
   grind [y5]
 have hag:∀ (m':Nat) (x:Obj'),m'=nn->∀ m y,yK (xK objs nn) m=some y->yK (setO objs m' x) m=some y:=λm' x e m y hm=>by grind [pE,oW]
 unfold dX at h;simp only[hop,hd,put] at h;generalize hea:ev (zD T) ad=ea at *;generalize hvv:ev (zD T) v=vv at *;cases ea with
 |ptr n off =>
  simp only at h;cases hg:yK objs n with
  |none=>grind| some x =>
   cases x with
   |arr s els=>grind| log s els=>grind| lent s els=>grind| mat s r q=>grind| box cs =>
    simp only[hg] at h;split at h;{rename_i hc;refine⟨_,λhu=>hag n _ ((hkey hu n).1 off rfl),h,λK' T' hx hK=>?_⟩;obtain⟨e1,e2⟩:=hev hx;unfold dX;simp only[hop,hd,put,e1,e2,hg,hc];exact hK};grind
 |aptr n s i off =>
  simp only at h;cases hg:yK objs n with
  |none=>grind| some x =>
   cases x with
   |box cs=>grind| log s els=>grind| lent s els=>grind| mat s0 r q =>
    simp only[hg] at h;split at h;{rename_i hc;obtain⟨hs1,v0,k,hs2,g1,g2,g3,g4⟩:=h.h;refine⟨_,λhu=>hag n _ ((hkey hu n).2 s i off rfl),g4,λK' T' hx hK=>?_⟩;obtain⟨e1,e2⟩:=hev hx;unfold dX;simp only[hop,hd,put,e1,e2,hg,hc];exact⟨⟨hs1,v0,k,hs2,g1,g2,g3,hK⟩⟩};grind
   |arr s' els =>
    simp only[hg] at h;split at h;{rename_i hc;obtain⟨c,g1,g2,g3,g4⟩:=h.h;refine⟨_,λhu=>hag n _ ((hkey hu n).2 s i off rfl),g4,λK' T' hx hK=>?_⟩;obtain⟨e1,e2⟩:=hev hx;unfold dX;simp only[hop,hd,put,e1,e2,hg,hc];exact⟨⟨c,g1,g2,g3,hK⟩⟩};grind
 |_=>simp only at h
theorem Z7 {objs objs':List (Nat×Obj')}{all:List Oper}{o:Oper}{τ:Nat->PV}{pv:PV}(hb:GI o=true)(h:vL false objs all o τ pv):vL false objs' all o τ pv :=
 mU (λh=>JJ hb h) id h
theorem Y3:∀ {l1 l2:List Oper} {v1 v2:List PV} {τ:Nat->PV},v1.length=l1.length->uH (l1++l2) (v1++v2) τ=uH l2 v2 (uH l1 v1 τ)
 |[],l2,[],v2,τ,_=>rfl| o::r,l2,v::vs,v2,τ,h=>by simp only[Vm,uH];exact Y3 (by grind)| [],l2,v::vs,v2,τ,h=>by simp at h| o::r,l2,[],v2,τ,h=>by simp at h
theorem TD {ops:List Oper}{k:Nat}(D:DrawOk ops k){Q:Exit->Act->World->Prop}{K:PS->Prop}(hdst:∀ o,o∈ops->tV N o=true)(hk:∀ ps' a' w' S' β',K ps'->Sim w0 S0 K0 N (zD ps'.tmps) ps'.objs a' w' S' β'->Q .normal a' w') {T0:List (Nat×PV)} {objs1 objs2:List (Nat×Obj')} {ps2:PS} {pvs:List PV} {i0:Nat} {os:Oper} (hi0:i0<k) (hos:ops[i0]?=some os) (hg:os.guard=none) (hkl:k<=ops.length) (hlen:pvs.length=(ops.take k).length) (hK:jB ops (ops.drop k) ⟨ps2.tmps,objs2⟩ K) (ht2:zD ps2.tmps=uH (ops.take k) pvs (zD T0)) (hst:∀ i o pv,i<k->i≠i0->ops[i]?=some o->pvs[i]?=some pv->(vL false objs1 ops o (uH ((ops.take k).take i) (pvs.take i) (zD T0)) pv\/((anc ops).getD i 0).testBit i0=true) /\ (vL false objs2 ops o (uH ((ops.take k).take i) (pvs.take i) (zD T0)) pv\/((anc ops).getD i0 0).testBit i=true)) (hsto:∀ T,(∀ t,t∈qR ops os->zD T t=uH ((ops.take k).take i0) (pvs.take i0) (zD T0) t)->dX os ⟨T,objs1⟩ (λp=>zD p.tmps=upd (zD T) os.dst (pvs.getD i0 .any)/\p.objs=objs2)):∀ (fuel:Nat) (L:Array Bool) {a:Act} {w:World} {S:Nat->Nat->Prop} {β:Bm} {T:List (Nat×PV)} {objs':List (Nat×Obj')},L.size=ops.length->(∀ j,j<ops.length->k<=j->¬Lst L j)->(∀ i o,ops[i]?=some o->Lst L i->pM (Lst L) o)->unl L ops.length<=fuel ->Sim w0 S0 K0 N (zD T) objs' a w S β->(Lst L i0->objs'=objs2)->(¬Lst L i0->objs'=objs1)->At ops k pvs (zD T0) (Lst L) (zD T)->wpAny Pg .any ops.toArray Q fuel L a w:=by
 have hpl:k<=pvs.length:=by grind
 have hend:∀ {T:List (Nat×PV)} {L:Array Bool},(∀ j,j<k->Lst L j)->At ops k pvs (zD T0) (Lst L) (zD T)->zD T=zD ps2.tmps:=by
  (intro T L hfull hat;funext t;rw[ht2];have htx:=At.text (τ0:=zD T0) D hlen k (yQ _);have e1:(ops.take k).take k=ops.take k:=by grind);have e2:pvs.take k=pvs:=yU (by grind)
  rw[e1,e2] at htx;exact hat.same D hpl htx λj o hj ho hd=>.inl ⟨hfull j hj,hj⟩
 intro fuel;induction fuel with
 |zero =>
  intro L a w S β T objs' hsz hge hcl hun h hob1 hob2 hat;have hall:=eN (Nat.le_zero.1 hun);have hall':∀ j,j<ops.length->Lst L j:=λj hj=>by have h1:=hall j hj;rw[vX oM true false] at h1;exact h1
  (have hkn:ops.length<=k:=by grind);have hk':k=ops.length:=by omega
  refine Ud D hdst hk 0 k L (ps:=⟨ps2.tmps,objs2⟩) (S:=S) (β:=β) (yQ _) hkl hsz (λj hj=>⟨λ_=>by omega,λ_=>hall' j hj⟩) oM ?_ hK;grind
 |succ fuel ih =>
  intro L a w S β T objs' hsz hge hcl hun h hob1 hob2 hat;by_cases hfull:∀ j,j<k->Lst L j
  ·refine Ud D hdst hk (fuel+1) k L (ps:=⟨ps2.tmps,objs2⟩) (S:=S) (β:=β) (yQ _) hkl hsz (λj hj=>⟨λhl=>?_,λhj'=>hfull j hj'⟩) ?_ ?_ hK;{rcases uG j k with h'|h';{exact h'};grind}
   ·have cnt:∀ n,k<=n->n<=ops.length->n<=k+unl L n:=by
     intro n;induction n with
     |zero=>omega| succ n ihn =>
      intro hkn hn;simp only[unl];by_cases hk0:k=n+1;{omega}
      ·(have:=ihn oM oM;have hnl:=hge n oM oM;have:L.getD n true≠true:=by rw[vX oM true false];exact hnl);grind
    grind
   grind
  ·have hun0:∃ j,j<k/\¬Lst L j/\∀ i,i<j->Lst L i:=by
    have:∀ n,n<=k->(∀ i,i<n->Lst L i)\/∃ j,j<k/\¬Lst L j/\∀ i,i<j->Lst L i:=by
     intro n;induction n with
     |zero=>grind| succ n ihn =>
      intro hn;rcases ihn oM with h1|h1;{by_cases hx:Lst L n;{refine .inl λi hi=>?_;by_cases e:i=n;{grind};grind};grind};{exact .inr h1}
    rcases this k (yQ _) with h1|h1;{grind};omega
   obtain⟨j0,hj0,hnj0,hbelow⟩:=hun0;refine⟨λhr=>?_,λi hi=>?_⟩
   ·(exfalso;have hlt:j0<ops.length:=by omega);have hin:j0∈Region.ready .any ops.toArray L:=by
     refine mem_ready.2 ⟨?_,ops[j0],by grind,λe he hb=>?_⟩
     ·rw[vX oM true false];cases hx:L.getD j0 false with
      |false=>rfl| true=>exact absurd hx hnj0
     {exact hbelow e.on (D.back j0 _ (uW hlt) e (by grind) hb)}
    grind
   ·(obtain⟨h1,o,h2,h3⟩:=mem_ready.1 hi;have ho:ops[i]?=some o:=by grind);have hlt:i<ops.length:=(w8.1 ho).1
    have hE:pM (Lst L) o:=λe he hb=>h3 e (by grind) hb;have hik:i<k:=by rcases uG i k with h'|h';{exact h'};{exact absurd (x8 hcl ho hE (D.rest i j0 hlt h' oM)) hnj0}
    (have hp:pvs[i]?=some pvs[i]:=uW oM;have hdo:=pJ (hdst o (yE ho));have hsize:i<L.size:=by omega);have hnl:¬Lst L i:=λhl=>by rw[vX oM true false] at h1;unfold Lst at hl;grind
    (have hagree:∀ t,t∈qR ops o->uH ((ops.take k).take i) (pvs.take i) (zD T0) t=zD T t:=λt ht=>At.same D hpl (At.text D hlen i oM) hat λj oj hj hoj hd=>by rcases D.look i o t j oj hik hj ho hoj ht hd with⟨q1,q2⟩|⟨q1,q2⟩;{exact .inl ⟨q1,x8 hcl ho hE q2⟩};{refine .inr ⟨by omega,λhl=>?_⟩;have:=x8 hcl hoj (hcl j oj hoj hl) q2;grind});have hnext:∀ {a':Act} {w':World} {S':Nat->Nat->Prop} {β':Bm} {T':List (Nat×PV)} {objs3:List (Nat×Obj')},zD T'=upd (zD T) o.dst pvs[i]->Sim w0 S0 K0 N (zD T') objs3 a' w' S' β'->(Lst (L.setIfInBounds i true) i0->objs3=objs2)->(¬Lst (L.setIfInBounds i true) i0->objs3=objs1)->wpAny Pg .any ops.toArray Q fuel (L.setIfInBounds i true) a' w':=by intro a' w' S' β' T' objs3 hT hsim g1 g2;refine ih (L.setIfInBounds i true) (by simpa using hsz) (λj hj hkj hl=>?_) (λj oj hoj hl=>?_) ?_ hsim g1 g2 (by rw[hT];exact hat.step D hik ho hp λj=>qF hsize j);{rcases (qF hsize j).1 hl with hl|hl;{exact hge j hj hkj hl};{omega}};{intro e he hb;rw[qF hsize];rcases (qF hsize j).1 hl with hl|hl;{exact .inl (hcl j oj hoj hl e he hb)};{subst hl;rw[ho] at hoj;cases hoj;exact .inl (hE e he hb)}};{have:=YA h1 hlt;omega}
    by_cases hie:i=i0;{subst hie;rw[ho] at hos;cases hos;have hob:objs'=objs1:=hob2 hnl;subst hob;have hs0:=hsto T λt ht=>(hagree t ht).symm;refine s6 ho (.inl ⟨by simp[Region.wanted,hg],cL (ps:=⟨T,objs'⟩) h hs0 hdo λps' a' w' S' β' hK hsim=>?_⟩);obtain⟨hK1,hK2⟩:=hK;refine hnext (T':=ps'.tmps) (objs3:=ps'.objs) ?_ hsim (λ_=>hK2) (λhn=>absurd ((qF hsize i).2 (.inr rfl)) hn);rw[hK1,wM,hp];rfl}
    ·(obtain⟨hA1,hA2⟩:=hst i o _ hik hie ho hp;have hsame:(Lst (L.setIfInBounds i true) i0↔Lst L i0):=by rw[qF hsize];grind);have hs1:vL false objs' ops o (uH ((ops.take k).take i) (pvs.take i) (zD T0)) pvs[i]:=by by_cases hl0:Lst L i0;{rw[hob1 hl0];rcases hA2 with q|q;{exact q};{exact absurd (x8 hcl hos (hcl i0 os hos hl0) q) hnl}};{rw[hob2 hl0];rcases hA1 with q|q;{exact q};{exact absurd (x8 hcl ho hE q) hl0}}
     have hs2:vL false objs' ops o (zD T) pvs[i]:=t9 hagree hs1;refine s6 ho ?_;rcases dN h.tmp hs2 with⟨hw,hA⟩|⟨hw,hB⟩;{refine .inl ⟨hw,iG h hA λpv w' S' v hpv l hr=>?_⟩;refine hnext (S':=S') (β':=β) (T':=(put ⟨T,[]⟩ o.dst pvs[i]).tmps) (xJ _ _ _) ?_ (λq=>hob1 (hsame.1 q)) (λq=>hob2 λq'=>q (hsame.2 q'));rw[xJ];exact (h.go l).put o.dst hdo (hr.le _ hpv)};{refine .inr ⟨hw,hnext (S':=S) (β':=β) (T':=(put ⟨T,[]⟩ o.dst pvs[i]).tmps) (xJ _ _ _) ?_ (λq=>hob1 (hsame.1 q)) (λq=>hob2 λq'=>q (hsame.2 q'))⟩;rw[xJ];refine h.put o.dst hdo ?_;rw[hB];exact eX _ _ _}
theorem lV:∀ {l:List Oper} {x:Nat×Obj'},x∈yR l↔∃ (i:Nat) (o:Oper),l[i]?=some o/\vD o=some x
 |[],x=>by simp[yR]| o::r,x=>by have ih:=@lV r x;unfold yR;constructor;{intro h;split at h;{rename_i y hy;rcases yS.1 h with h|h;{exact⟨0,o,rfl,by grind⟩};{obtain⟨i,o',q1,q2⟩:=ih.1 h;exact⟨i+1,o',by grind,q2⟩}};{obtain⟨i,o',q1,q2⟩:=ih.1 h;exact⟨i+1,o',by grind,q2⟩}};grind
theorem UZ {ops:List Oper}{k:Nat}{x:Nat×Obj'}:x∈yR (ops.take k)↔∃ i o,i<k/\ops[i]?=some o/\vD o=some x:=by rw[lV];constructor;{grind};{rintro⟨i,o,q0,q1,q2⟩;exact⟨i,o,by grind,q2⟩}
theorem XN {ps:PS}:∀ {l:List (Nat×Obj')} {n:Nat} {o:Obj'},UY ps l=true->(n,o)∈l->yO n ps=true
 |[],n,o,_,h=>by simp at h| (m,x)::r,n,o,hm,h=>by simp only[UY,xA] at hm;rcases yS.1 h with h|h;{grind};{exact XN hm.2 h}
theorem VN {T:List (Nat×PV)}:∀ {l:List (Nat×Obj')} {n:Nat} {o:Obj'},VO T l=true->(n,o)∈l->mfT n T=true
 |[],n,o,_,h=>by simp at h| (m,x)::r,n,o,hm,h=>by simp only[VO,xA] at hm;rcases yS.1 h with h|h;{grind};{exact VN hm.2 h}
theorem Kt {n t:Nat}(ht:t≠n):∀ {T:List (Nat×PV)},mfT n T=true->xN n (zD T t)=true
 |[],_=>rfl| (u,v)::r,h=>by
  simp only[mfT,xA] at h;unfold zD;cases hu:nqb u t with
  |true =>
   grind [y5]
  |false=>exact Kt ht h.2
theorem VZ:∀ l:List PV,wW (λv=>v) l=l
 |[]=>rfl| v::r=>by unfold wW;rw[VZ r]
theorem VV:∀ l:List (Nat×PV),xW (λv=>v) l=l
 |[]=>rfl| (t,v)::r=>by unfold xW;rw[VV r]
theorem VX:∀ l:List (PV×(Unit->Nat)),gG (λv=>v) l=l
 |[]=>rfl| (v,k)::r=>by unfold gG;rw[VX r]
theorem Hc (o:Obj'):xY (λv=>v) o=o:=by
 cases o with
 |box cs=>simp only[xY,VZ]| mat s r q=>simp only[xY,VX]| _=>rfl
theorem VW:∀ l:List (Nat×Obj'),y6 (λv=>v) l=l
 |[]=>rfl| (n,o)::r=>by
  (have e:y6 (λv=>v) ((n,o)::r)=(n,xY (λv=>v) o)::y6 (λv=>v) r:=by cases o <;> rfl);rw[e,VW r,Hc]
theorem V7 {n:Nat}{o:Obj'}:∀ (M:List Nat) {l:List (Nat×Obj')},yK (gJ M l) n=some o->yM n M=false/\yK l n=some o
 |[],l,h=>⟨rfl,h⟩| m::r,l,h=>by unfold gJ at h;obtain⟨h1,h2⟩:=V7 r h;grind [pE,yM,y5]
theorem aG:∀ {l:List (Nat×Obj')} {n:Nat} {x:Obj'},n∈l.map Prod.fst->(n,x)∈setO l n x
 |(u,v)::r,n,x,hn=>by
  unfold setO;cases hu:nqb u n with
  |true=>grind| false =>
   (have hne:u≠n:=λe=>by simp_all);have hn':n∈r.map Prod.fst:=by grind
   exact w6 _ (aG hn')
 |[],n,x,hn=>by grind
theorem oK:∀ {l:List (Nat×Obj')} {n m:Nat} {x o:Obj'},m≠n->(m,o)∈l->(m,o)∈setO l n x
 |(u,v)::r,n,m,x,o,hne,h=>by
  unfold setO;cases hu:nqb u n with
  |true =>
   simp_all
  |false =>
   rcases yS.1 h with h|h;{grind};{exact w6 _ (oK hne h)}
 |[],n,m,x,o,hne,h=>by simp at h
theorem oL {l:List (Nat×Obj')}{n m:Nat}{x o:Obj'}(hnd:(l.map Prod.fst).Nodup)(hn:n∈l.map Prod.fst):(m,o)∈setO l n x↔(m=n/\o=x)\/(m≠n/\(m,o)∈l) :=
 ⟨wF hnd hn,λh=>by rcases h with⟨rfl,rfl⟩|⟨h1,h2⟩;{exact aG hn};grind [oK]⟩
theorem gP:∀ (l r:List Oper),yR (l++r)=yR l++yR r
 |[],r=>rfl| o::l,r=>by
  simp only[Vm,yR];cases vD o with
  |none=>exact gP l r| some x=>simp only[Vm,gP l r]
theorem jF:∀ {es:List (Nat×Nat)} {i n:Nat},y4 es i=some n->(i,n)∈es
 |(a,b)::r,i,n,h=>by
  unfold y4 at h;cases ha:nqb a i with
  |true =>
   simp_all
  |false=>rw[ha] at h;exact w6 _ (jF h)
 |[],i,n,h=>by grind [y4]
theorem sM:∀ {l:List Nat} {n:Nat},n∈l->yM n l=true
 |m::r,n,h=>by unfold yM;rcases yS.1 h with rfl|h;{simp};{rw[sM h];simp}
 |[],n,h=>by simp at h
theorem Xe:∀ {es:List (Nat×Nat)} {i n:Nat},(i,n)∈es->n∈kZ es
 |(a,b)::r,i,n,h=>by unfold kZ;rcases yS.1 h with h|h;{grind};{exact w6 _ (Xe h)}
 |[],i,n,h=>by simp at h
theorem ZG:∀ {es:List (Nat×Nat)} {i j n:Nat},Kp (kZ es)=true->y4 es i=some n->y4 es j=some n->i=j
 |(a,b)::r,i,j,n,hd,h1,h2=>by
  (unfold kZ Kp at hd;simp only[xA,WY] at hd;unfold y4 at h1 h2;have bad:∀ {x},y4 r x=some b->False:=λh=>by rw[sM (Xe (jF h))] at hd;grind);cases ha:nqb a i with
  |true =>
   grind [y5]
  |false =>
   rw[ha] at h1;cases hb:nqb a j with
   |true=>grind| false=>rw[hb] at h2;exact ZG hd.2 h1 h2
 |[],i,j,n,_,h1,_=>by grind [y4]
theorem XM:∀ {ms:List (Nat×Obj')} {cs:List PV},UW ms cs=true->∀ d y,(d,y)∈ms->wL d cs=true
 |(a,b)::r,cs,h,d,y,hm=>by unfold UW at h;simp only[xA] at h;rcases yS.1 hm with hm|hm;{grind};{exact XM h.2 d y hm}
 |[],cs,h,d,y,hm=>by grind
theorem oO {ops:List Oper}{o:Oper}{T:List (Nat×PV)}{τ:Nat->PV}(hg:o.guard=none)(h:∀ t,t∈qR ops o->zD T t=τ t):∀ x,x∈o.op.operands.toList->ev (zD T) x=ev τ x:=λx hx=>by
 cases x with
 |tmp t =>
  show zD T t=τ t;refine h t ?_;unfold qR;grind
 |_=>rfl
inductive EfStep (ops:List Oper) (es:List (Nat×Nat)) (ms lim:List (Nat×Obj')) (i:Nat) (o:Oper) (τ:Nat->PV) (pv:PV) (O O':List (Nat×Obj')):Prop
 |mk {d x} (h:vD o=some (d,x)) (hp:pv=.ptr d 0) (hO:O'=O++[(d,x)])
 |eff {n x x0} (hm:vD o=none) (he:y4 es i=some n) (h0:yK O n=some x0) (hfree:∀ d y,(d,y)∈ms->bE d x) (hg:o.guard=none)
   (hgo:∀ (T':List (Nat×PV)) (O1:List (Nat×Obj')),(∀ t,t∈qR ops o->zD T' t=τ t)->yK O1 n=some x0->dX o ⟨T',O1⟩ (λp=>zD p.tmps=upd (zD T') o.dst pv/\p.objs=setO O1 n x)) (hO:O'=setO O n x)
 |pure (hm:vD o=none) (he:y4 es i=none) (h:vL true lim ops o τ pv) (hO:O'=O)
theorem SJ {ops:List Oper}{ms:List (Nat×Obj')}{o:Oper}{n:Nat}{T:List (Nat×PV)}{O:List (Nat×Obj')}{K:PV->Obj'->Prop}(h:TB ms o n T O K):∃ pv x x0,K pv x/\yK O n=some x0/\(∀ d y,(d,y)∈ms->bE d x)/\o.guard=none /\ ∀ (T':List (Nat×PV)) (O1:List (Nat×Obj')),(∀ t,t∈qR ops o->zD T' t=zD T t)->yK O1 n=some x0->dX o ⟨T',O1⟩ (λp=>zD p.tmps=upd (zD T') o.dst pv/\p.objs=setO O1 n x):=by
 unfold TB at h;cases hg:o.guard with
 |some g=>grind| none =>
 rw[hg] at h;simp only at h;cases hop:o.op with
 |store t a v =>
  rw[hop] at h;simp only at h;cases hd:o.dst with
  |some d=>grind| none =>
   rw[hd] at h;simp only at h;cases hea:ev (zD T) a with
   |ptr m off =>
    rw[hea] at h;simp only at h;cases hmn:nqb m n with
    |false=>grind| true =>
     rw[hmn] at h;simp only at h;have:=y5 hmn;subst this;cases hgo:yK O m with
     |none=>grind| some x0 =>
      rw[hgo] at h;cases x0 with
      |arr s e=>grind| log s e=>grind| lent s e=>grind| mat s r q=>grind| box cs =>
       simp only at h;split at h;{rename_i hc;simp only[xA] at hc;refine⟨_,_,_,h,rfl,λd y hy=>XM hc.2 d y hy,rfl,λT' O1 hT hO=>?_⟩;have hev:=oO hg hT;have e1:ev (zD T') a=.ptr m off:=(hev a (by grind [Op.operands])).trans hea;have e2:ev (zD T') v=ev (zD T) v:=hev v (by grind [Op.operands]);have hc':=hc.1;unfold dX;simp only[hop,e1,e2,hO];rw[show (nqb (yW (ev (zD T) v)).length (ty t).cells&&nle (off+(ty t).cells) cs.length&&nlt 0 (ty t).cells&&yX tE (yW (ev (zD T) v)))=true by grind];simp only[hd,put];refine⟨?_,?_⟩ <;> first|rfl|trivial};grind
   |_=>rw[hea] at h;exact h.elim
 |call c =>
  rw[hop] at h;simp only at h;cases hcl:c.callee with
  |value g =>
   rw[hcl] at h;simp only at h;obtain⟨f,caps,hn,cargs,m,x,r,x',E1,E2,E3,E4,E5,E6,E7,E8,E9,E10,E11⟩:=h.h;refine⟨_,_,_,E11,E5,λd y _=>?_,rfl,λT' O1 hT hO=>?_⟩
   ·cases x' with
    |box cs=>exact Vx d E7| arr s e=>trivial| log s e=>trivial| lent s e=>trivial| mat s r q =>
     cases q with
     |nil=>rfl| cons x y=>cases E7
   {have hev:=oO hg hT;have hargs:∀ x,x∈c.args.toList->ev (zD T') x=ev (zD T) x:=λx hx=>hev x (by grind [Op.operands,Call.operands]);have hf:ev (zD T') g=ev (zD T) g:=hev g (by grind [Op.operands,Call.operands]);subst E4;unfold dX;simp only[hop,hcl];refine⟨⟨T',O1⟩,.refl _,f,caps,by grind,.inr ⟨hn,cargs,[(m,x)],[],r,[(m,x')],[],?_,E3,⟨⟨by grind [WF],Yn E6⟩,trivial⟩,rfl,rfl,?_,rfl,rfl,E8,E9,E10,?_,?_⟩⟩;{grind [pF]};{show ((bK x'&&J8 [m] x')&&true)=true;grind [Yn,FT]};{rw[xJ];show upd (zD (xW (λv=>v) T')) o.dst _=_;rw[VV]};{rw[kG];show setO (y6 (λv=>v) O1) (hn m) (xY (ren hn) x')++[]=_;rw[VW,vM,WF E7]}}
  |_=>grind
 |_=>rw[hop] at h;exact h.elim
theorem BB {ops:List Oper}{es:List (Nat×Nat)}{ms lim:List (Nat×Obj')}{K:List (Nat×PV)->List (Nat×Obj')->Prop}:∀ (l:List Oper) (i:Nat) {T:List (Nat×PV)} {O:List (Nat×Obj')},Yw ops es ms lim l i T O K ->∃ (pvs:List PV) (Ob:Nat->List (Nat×Obj')) (T':List (Nat×PV)),pvs.length=l.length/\Ob 0=O/\K T' (Ob l.length)/\zD T'=uH l pvs (zD T) /\ ∀ j o pv,l[j]?=some o->pvs[j]?=some pv->EfStep ops es ms lim (i+j) o (uH (l.take j) (pvs.take j) (zD T)) pv (Ob j) (Ob (j+1))
 |[],i,T,O,h=>⟨[],λ_=>O,T,rfl,rfl,h,rfl,λj o pv h=>by simp at h⟩| o::r,i,T,O,h=>by
  obtain⟨pv,O1,T1,h1,ht1,hst⟩:∃ pv O1 T1,Yw ops es ms lim r (i+1) T1 O1 K/\zD T1=upd (zD T) o.dst pv/\EfStep ops es ms lim i o (zD T) pv O O1:=by
   unfold Yw at h;cases hm:vD o with
   |some dx =>
    obtain⟨d,x⟩:=dx;rw[hm] at h;simp only at h;obtain⟨_,hd,_⟩:=gY hm;exact⟨.ptr d 0,_,_,h,by rw[hd];funext t;simp[upd,gH],.mk hm rfl rfl⟩
   |none =>
    rw[hm] at h;simp only at h;cases he:y4 es i with
    |some n =>
     rw[he] at h;simp only at h;obtain⟨pv,x,x0,h1,h2,h3,h4,h5⟩:=SJ (ops:=ops) h;exact⟨pv,_,_,h1,xJ _ _ _,.eff hm he h2 h3 h4 h5 rfl⟩
    |none =>
     rw[he] at h;simp only at h;rcases t8 h with⟨pv,q1,q2⟩|⟨q1,q2⟩;{obtain⟨pv',p,g1,g2,g3,g4⟩:=mN q1;exact⟨pv',O,p.tmps,g2,g4,.pure hm he (q2 pv' g1) rfl⟩};{exact⟨.tup [],O,_,q1,xJ _ _ _,.pure hm he q2 rfl⟩}
  obtain⟨pvs,Ob,T',g1,g2,g3,g4,g5⟩:=BB r (i+1) h1;refine⟨pv::pvs,λj=>match j with|0=>O|j+1=>Ob j,T',by simp[g1],rfl,by omega,by rw[g4,ht1];rfl,λj o' pv' hj hp=>?_⟩;cases j with
  |zero =>
   simp only[l8,t5] at hj hp;subst hj hp;show EfStep ops es ms lim i o _ pv O (Ob 0);rw[g2];exact hst
  |succ j =>
   simp only[m8] at hj hp;have:=g5 j o' pv' hj hp;rw[ht1] at this;rw[show i+(j+1)=i+1+j by omega];exact this
def EMem (ops:List Oper) (es:List (Nat×Nat)) (k:Nat) (O0:List (Nat×Obj')) (X:Nat->Obj') (L:Nat->Prop) (y:Nat×Obj'):Prop :=
 ((y∈O0\/∃ j oj,j<k/\L j/\ops[j]?=some oj/\vD oj=some y)/\¬∃ i,i<k/\y4 es i=some y.1/\L i)\/(∃ i,i<k/\y4 es i=some y.1/\L i/\X i=y.2)
section
variable {ops:List Oper} {es:List (Nat×Nat)} {k:Nat} {O0:List (Nat×Obj')} {X:Nat->Obj'} {L L':Nat->Prop}
theorem EMem.pure {i:Nat}{o:Oper}(ho:ops[i]?=some o)(hm:vD o=none)(he:y4 es i=none)(hL':∀ j,L' j↔L j\/j=i)(y:Nat×Obj'):EMem ops es k O0 X L' y↔EMem ops es k O0 X L y:=by
 have h1:(∃ j oj,j<k/\L' j/\ops[j]?=some oj/\vD oj=some y)↔∃ j oj,j<k/\L j/\ops[j]?=some oj/\vD oj=some y:=by grind
 have h2:∀ P:Nat->Prop,(∃ j,j<k/\y4 es j=some y.1/\L' j/\P j)↔∃ j,j<k/\y4 es j=some y.1/\L j/\P j:=by grind
 have h3:(∃ i,i<k/\y4 es i=some y.1/\L' i)↔∃ i,i<k/\y4 es i=some y.1/\L i:=by grind
 unfold EMem;simp_all
theorem EMem.mk {i:Nat}{o:Oper}{d:Nat}{x:Obj'}(ho:ops[i]?=some o)(hik:i<k)(hm:vD o=some (d,x))(he:y4 es i=none)(hno:∀ j,j<k->y4 es j=some d->¬L j)(hL':∀ j,L' j↔L j\/j=i)(y:Nat×Obj'):EMem ops es k O0 X L' y↔EMem ops es k O0 X L y\/y=(d,x):=by
 have h1:(∃ j oj,j<k/\L' j/\ops[j]?=some oj/\vD oj=some y)↔(∃ j oj,j<k/\L j/\ops[j]?=some oj/\vD oj=some y)\/y=(d,x):=by grind
 have h2:∀ P:Nat->Prop,(∃ j,j<k/\y4 es j=some y.1/\L' j/\P j)↔∃ j,j<k/\y4 es j=some y.1/\L j/\P j:=by grind
 have h3:(∃ i,i<k/\y4 es i=some y.1/\L' i)↔∃ i,i<k/\y4 es i=some y.1/\L i:=by grind
 have h4:y=(d,x)->¬∃ i,i<k/\y4 es i=some y.1/\L i:=by grind
 unfold EMem;rw[h1,h2,h3];constructor
 ·rintro (⟨q1|q1|q1,q2⟩|q);{grind};{grind}
  all_goals grind
 ·rintro ((⟨q1|q1,q2⟩|q)|q);{grind};{grind}
  all_goals grind
theorem EMem.eff {i:Nat}{o:Oper}{n:Nat}(hinj:∀ {i j n},y4 es i=some n->y4 es j=some n->i=j)(ho:ops[i]?=some o)(hik:i<k)(hm:vD o=none)(he:y4 es i=some n)(hL':∀ j,L' j↔L j\/j=i)(y:Nat×Obj'):EMem ops es k O0 X L' y↔(y.1=n/\y.2=X i)\/(y.1≠n/\EMem ops es k O0 X L y):=by
 have h1:(∃ j oj,j<k/\L' j/\ops[j]?=some oj/\vD oj=some y)↔∃ j oj,j<k/\L j/\ops[j]?=some oj/\vD oj=some y:=by grind
 by_cases hy:y.1=n;{have h2:∀ j,y4 es j=some y.1->j=i:=λj hj=>hinj (by grind) he;unfold EMem;grind}
 ·(have h2:∀ P:Nat->Prop,(∃ j,j<k/\y4 es j=some y.1/\L' j/\P j)↔∃ j,j<k/\y4 es j=some y.1/\L j/\P j:=by grind);have h3:(∃ i,i<k/\y4 es i=some y.1/\L' i)↔∃ i,i<k/\y4 es i=some y.1/\L i:=by grind
  unfold EMem;rw[h1,h2,h3];constructor;{intro q;exact .inr ⟨hy,q⟩}
  ·rintro (⟨q,_⟩|⟨_,q⟩)
   all_goals omega
end
theorem TF {ops:List Oper}{k:Nat}(D:DrawOk ops k){Q:Exit->Act->World->Prop}{K:PS->Prop}(hdst:∀ o,o∈ops->tV N o=true)(hk:∀ ps' a' w' S' β',K ps'->Sim w0 S0 K0 N (zD ps'.tmps) ps'.objs a' w' S' β'->Q .normal a' w') {T0 T2:List (Nat×PV)} {O0 O2:List (Nat×Obj')} {pvs:List PV} {es:List (Nat×Nat)} {ms lim:List (Nat×Obj')} {X:Nat->Obj'} {Ob:Nat->List (Nat×Obj')} (hkl:k<=ops.length) (hlen:pvs.length=(ops.take k).length) (hK:jB ops (ops.drop k) ⟨T2,O2⟩ K) (ht2:zD T2=uH (ops.take k) pvs (zD T0)) (hO2:∀ y,y∈O2↔EMem ops es k O0 X (λj=>j<k) y) (hnd2:(O2.map Prod.fst).Nodup) (hms:∀ x,x∈ms↔∃ i o,i<k/\ops[i]?=some o/\vD o=some x) (hfr:∀ n x,(n,x)∈ms->n<1000000/\(∀ t,xN n (zD T0 t)=true)/\(∀ m o,(m,o)∈O0->m≠n/\bE n o)/\(∀ t,t≠n->xN n (zD T2 t)=true)) (hlim:∀ n o,yK lim n=some o->(n,o)∈O0/\∀ i,y4 es i≠some n) (hinj:∀ {i j n},y4 es i=some n->y4 es j=some n->i=j) (hmkE:∀ i o x,ops[i]?=some o->vD o=some x->y4 es i=none) (hanc:∀ i n j oj x,i<k->y4 es i=some n->j<k->ops[j]?=some oj->vD oj=some (n,x)->((anc ops).getD i 0).testBit j=true) (hOb:∀ i,i<k->∀ y,y∈Ob i↔EMem ops es k O0 X (λj=>j<i) y) (hst:∀ i o pv,(ops.take k)[i]?=some o->pvs[i]?=some pv->EfStep ops es ms lim i o (uH ((ops.take k).take i) (pvs.take i) (zD T0)) pv (Ob i) (Ob (i+1))) (hX:∀ i n x,i<k->y4 es i=some n->(n,x)∈Ob (i+1)->X i=x) (hXin:∀ i n x0 x,yK (Ob i) n=some x0->(n,x)∈setO (Ob i) n x):∀ (fuel:Nat) (L:Array Bool) {a:Act} {w:World} {S:Nat->Nat->Prop} {β:Bm} {T:List (Nat×PV)} {objs':List (Nat×Obj')},L.size=ops.length->(∀ j,j<ops.length->k<=j->¬Lst L j)->(∀ i o,ops[i]?=some o->Lst L i->pM (Lst L) o)->unl L ops.length<=fuel ->Sim w0 S0 K0 N (zD T) objs' a w S β->(∀ y,y∈objs'↔EMem ops es k O0 X (Lst L) y)->At ops k pvs (zD T0) (Lst L) (zD T)->wpAny Pg .any ops.toArray Q fuel L a w:=by
 have hpl:k<=pvs.length:=by rw[hlen];simp;omega
 have htx:At ops k pvs (zD T0) (λj=>j<k) (zD T2):=by
  (have htx:=At.text (τ0:=zD T0) D hlen k (yQ _);have e1:(ops.take k).take k=ops.take k:=by rw[List.take_take,Nat.min_self]);have e2:pvs.take k=pvs:=yU (by rw[hlen];simp;omega)
  grind
 have hend:∀ {T:List (Nat×PV)} {L:Array Bool},(∀ j,j<k->Lst L j)->At ops k pvs (zD T0) (Lst L) (zD T)->zD T=zD T2:=by intro T L hfull hat;funext t;exact hat.same D hpl htx λj o hj ho hd=>.inl ⟨hfull j hj,hj⟩
 have hEx:∀ {L:Array Bool},(∀ j,j<k->Lst L j)->∀ y,EMem ops es k O0 X (Lst L) y↔EMem ops es k O0 X (λj=>j<k) y:=by
  (intro L hfull y;have e1:∀ P:Nat->Prop,(∃ j,j<k/\y4 es j=some y.1/\Lst L j/\P j)↔∃ j,j<k/\y4 es j=some y.1/\j<k/\P j:=λP=>⟨λ⟨j,q1,q2,_,q4⟩=>⟨j,q1,q2,q1,q4⟩,λ⟨j,q1,q2,_,q4⟩=>⟨j,q1,q2,hfull j q1,q4⟩⟩;have e2:(∃ j oj,j<k/\Lst L j/\ops[j]?=some oj/\vD oj=some y)↔∃ j oj,j<k/\j<k/\ops[j]?=some oj/\vD oj=some y:=⟨λ⟨j,oj,q1,_,q3⟩=>⟨j,oj,q1,q1,q3⟩,λ⟨j,oj,q1,_,q3⟩=>⟨j,oj,q1,hfull j q1,q3⟩⟩;have e3:(∃ i,i<k/\y4 es i=some y.1/\Lst L i)↔∃ i,i<k/\y4 es i=some y.1/\i<k:=by simpa using e1 (λ_=>True));unfold EMem
  rw[e1,e2,e3]
 intro fuel;induction fuel with
 |zero =>
  (intro L a w S β T objs' hsz hge hcl hun h hin hat;have hall:=eN (Nat.le_zero.1 hun);have hall':∀ j,j<ops.length->Lst L j:=λj hj=>by have h1:=hall j hj;rw[vX oM true false] at h1;exact h1);have hkn:ops.length<=k:=by rcases uG k ops.length with h'|h';{exact absurd (hall' k h') (hge k h' (yQ _))};omega
  have hfull:∀ j,j<k->Lst L j:=λj hj=>hall' j oM;refine Ud D hdst hk 0 k L (ps:=⟨T2,O2⟩) (S:=S) (β:=β) (yQ _) hkl hsz (λj hj=>⟨λ_=>by omega,λ_=>hall' j hj⟩) oM ?_ hK;show Sim w0 S0 K0 N (zD T2) O2 a w S β;rw[<-hend hfull hat];exact h.perm (λx=>by rw[hO2 x,hin x,hEx hfull x]) hnd2
 |succ fuel ih =>
  intro L a w S β T objs' hsz hge hcl hun h hin hat;by_cases hfull:∀ j,j<k->Lst L j
  ·refine Ud D hdst hk (fuel+1) k L (ps:=⟨T2,O2⟩) (S:=S) (β:=β) (yQ _) hkl hsz (λj hj=>⟨λhl=>?_,λhj'=>hfull j hj'⟩) ?_ ?_ hK;{rcases uG j k with h'|h';{exact h'};{exact absurd hl (hge j hj h')}}
   ·have cnt:∀ n,k<=n->n<=ops.length->n<=k+unl L n:=by
     intro n;induction n with
     |zero=>omega| succ n ihn =>
      intro hkn hn;simp only[unl];by_cases hk0:k=n+1;{omega}
      ·(have:=ihn oM oM;have hnl:=hge n oM oM;have:L.getD n true≠true:=by rw[vX oM true false];exact hnl);rw[if_neg this]
       omega
    have:=cnt ops.length hkl (yQ _);omega
   {show Sim w0 S0 K0 N (zD T2) O2 a w S β;rw[<-hend hfull hat];exact h.perm (λx=>by rw[hO2 x,hin x,hEx hfull x]) hnd2}
  ·have hun0:∃ j,j<k/\¬Lst L j/\∀ i,i<j->Lst L i:=by
    have:∀ n,n<=k->(∀ i,i<n->Lst L i)\/∃ j,j<k/\¬Lst L j/\∀ i,i<j->Lst L i:=by
     intro n;induction n with
     |zero=>intro _;exact .inl λi h=>by omega| succ n ihn =>
      intro hn;rcases ihn oM with h1|h1;{by_cases hx:Lst L n;{refine .inl λi hi=>?_;by_cases e:i=n;{exact e ▸ hx};{exact h1 i oM}};{exact .inr ⟨n,by omega,hx,h1⟩}};{exact .inr h1}
    rcases this k (yQ _) with h1|h1;{exact absurd h1 hfull};omega
   obtain⟨j0,hj0,hnj0,hbelow⟩:=hun0;refine⟨λhr=>?_,λi hi=>?_⟩
   ·(exfalso;have hlt:j0<ops.length:=by omega);have hin:j0∈Region.ready .any ops.toArray L:=by
     refine mem_ready.2 ⟨?_,ops[j0],by simp[hlt],λe he hb=>?_⟩
     ·rw[vX oM true false];cases hx:L.getD j0 false with
      |false=>rfl| true=>exact absurd hx hnj0
     {exact hbelow e.on (D.back j0 _ (uW hlt) e (by simpa using he) hb)}
    rw[hr] at hin;cases hin
   ·(obtain⟨h1,o,h2,h3⟩:=mem_ready.1 hi;have ho:ops[i]?=some o:=by simpa using h2);have hlt:i<ops.length:=(w8.1 ho).1
    have hE:pM (Lst L) o:=λe he hb=>h3 e (by simpa using he) hb;have hik:i<k:=by rcases uG i k with h'|h';{exact h'};{exact absurd (x8 hcl ho hE (D.rest i j0 hlt h' oM)) hnj0}
    (have hp:pvs[i]?=some pvs[i]:=uW oM;have hdo:=pJ (hdst o (yE ho));have hsize:i<L.size:=by omega);have hnl:¬Lst L i:=λhl=>by rw[vX oM true false] at h1;unfold Lst at hl;rw[h1] at hl;exact absurd hl (by decide)
    (have hagree:∀ t,t∈qR ops o->uH ((ops.take k).take i) (pvs.take i) (zD T0) t=zD T t:=λt ht=>At.same D hpl (At.text D hlen i oM) hat λj oj hj hoj hd=>by rcases D.look i o t j oj hik hj ho hoj ht hd with⟨q1,q2⟩|⟨q1,q2⟩;{exact .inl ⟨q1,x8 hcl ho hE q2⟩};{refine .inr ⟨by omega,λhl=>?_⟩;have:=x8 hcl hoj (hcl j oj hoj hl) q2;rw[vX oM true false] at h1;exact absurd this (by unfold Lst;rw[h1];decide)});have hLs:∀ j,Lst (L.setIfInBounds i true) j↔Lst L j\/j=i:=qF hsize;have hnext:∀ {a':Act} {w':World} {S':Nat->Nat->Prop} {β':Bm} {T':List (Nat×PV)} {objs3:List (Nat×Obj')},zD T'=upd (zD T) o.dst pvs[i]->Sim w0 S0 K0 N (zD T') objs3 a' w' S' β'->(∀ y,y∈objs3↔EMem ops es k O0 X (Lst (L.setIfInBounds i true)) y)->wpAny Pg .any ops.toArray Q fuel (L.setIfInBounds i true) a' w':=by intro a' w' S' β' T' objs3 hT hsim g1;refine ih (L.setIfInBounds i true) (by simpa using hsz) (λj hj hkj hl=>?_) (λj oj hoj hl=>?_) ?_ hsim g1 (by rw[hT];exact hat.step D hik ho hp λj=>qF hsize j);{rcases (qF hsize j).1 hl with hl|hl;{exact hge j hj hkj hl};{omega}};{intro e he hb;rw[qF hsize];rcases (qF hsize j).1 hl with hl|hl;{exact .inl (hcl j oj hoj hl e he hb)};{subst hl;rw[ho] at hoj;cases hoj;exact .inl (hE e he hb)}};{have:=YA h1 hlt;omega}
    cases hst i o pvs[i] (by rw[uX hik];exact ho) hp with
    | @mk d x hmk hpv hO =>
     obtain⟨hgn,hod,t0,hop0,hno0,hx0⟩:=gY hmk;have hinms:(d,x)∈ms:=(hms _).2 ⟨i,o,hik,ho,hmk⟩;obtain⟨f1,f2,f3,f4⟩:=hfr d x hinms;have uniq:∀ j oj,j<k->ops[j]?=some oj->oj.dst=some d->j=i:=λj oj hj hoj hd' =>
      pI D.dst (by rw[uX hj];exact hoj) (by rw[uX hik];exact ho) hd' hod
     (have hnoE:∀ j,j<k->y4 es j=some d->¬Lst L j:=λj hj hje hjl=>by have hjo:ops[j]?=some ops[j]:=uW oM;exact hnl (x8 hcl hjo (hcl j _ hjo hjl) (hanc j d i o x hj hje hik ho hmk)));refine s6 ho (.inl ⟨by simp[Region.wanted,hgn],M8 hmk (hdst o (yE ho)) h f1 (λt=>?_) (λ{m y} hmy=>?_) λa' w' β' hsim=>?_⟩)
     {by_cases hw:∃ j oj,j<k/\Lst L j/\ops[j]?=some oj/\oj.dst=some t;{obtain⟨j,oj,q1,q2,q3,q4⟩:=hw;have hpj:pvs[j]?=some pvs[j]:=uW oM;rw[hat.hit j oj t _ q1 q2 q3 hpj q4,<-htx.hit j oj t _ q1 q1 q3 hpj q4];refine f4 t λe=>?_;subst e;exact hnl (uniq j oj q1 q3 q4 ▸ q2)};{rw[hat.miss t λj oj q1 q2 q3 q4=>hw ⟨j,oj,q1,q2,q3,q4⟩];exact f2 t}}
     ·rcases (hin _).1 hmy with⟨q|⟨j,oj,q1,q2,q3,q4⟩,_⟩|⟨j,q1,q2,q3,q4⟩;{exact f3 m y q};{obtain⟨_,hodj,t1,_,hno1,hy1⟩:=gY q4;refine⟨λe=>?_,?_⟩;{subst e;exact hnl (uniq j oj q1 q3 hodj ▸ q2)};{rw[hy1];exact Vn hno1}}
      ·refine⟨λe=>?_,?_⟩;{simp only at q2;rw[e] at q2;exact hnoE j q1 q2 q3}
       ·have hjo:ops[j]?=some ops[j]:=uW oM;have hpj:pvs[j]?=some pvs[j]:=uW oM;cases hst j ops[j] pvs[j] (by rw[uX q1];exact hjo) hpj with
        |mk hmk' _ _=>rw[hmkE j _ _ hjo hmk'] at q2;cases q2
        |pure _ he' _ _=>rw[he'] at q2;cases q2
        |eff hm' he' h0' hfree' hg' hgo' hO' =>
         rw[he'] at q2;cases q2;have:=hX j _ _ q1 he' (by rw[hO'];exact hXin _ _ _ _ h0');have q4':X j=y:=q4;rw[<-q4',this];exact hfree' d x hinms
     {have hT:zD (put ⟨T,[]⟩ o.dst pvs[i]).tmps=upd (zD T) o.dst pvs[i]:=xJ _ _ _;rw[<-hpv,<-hT] at hsim;refine hnext hT hsim λy=>?_;rw[wZ,fZ,EMem.mk ho hik hmk (hmkE i o _ ho hmk) hnoE hLs y,hin y]}
    | @eff n x x0 hm he h0 hfree hg hgo hO =>
     have hxX:X i=x:=hX i n x hik he (by rw[hO];exact hXin _ _ _ _ h0);have hne:∀ {y:Nat×Obj'} {M:Nat->Prop},y.1=n->¬M i->EMem ops es k O0 X M y->(y∈O0\/∃ j oj,j<k/\M j/\ops[j]?=some oj/\vD oj=some y):=λ{y M} hy hMi hE=>by rcases hE with⟨q,_⟩|⟨j,q1,q2,q3,q4⟩;{exact q};{rw[hy] at q2;have:=hinj q2 he;subst this;exact absurd q3 hMi}
     (have hx0:=hne (y:=(n,x0)) rfl oM ((hOb i hik _).1 (xH h0));have hnoL:¬∃ j,j<k/\y4 es j=some n/\Lst L j:=λ⟨j,q1,q2,q3⟩=>hnl (hinj q2 he ▸ q3);have hin0:(n,x0)∈objs':=by rw[hin];refine .inl ⟨?_,hnoL⟩;rcases hx0 with q|⟨j,oj,q1,q2,q3,q4⟩;{exact .inl q};{exact .inr ⟨j,oj,q1,x8 hcl ho hE (hanc i n j oj x0 hik he q1 q3 q4),q3,q4⟩});have hget:yK objs' n=some x0:=uE h.obj.nd hin0;have hs0:=hgo T objs' (λt ht=>(hagree t ht).symm) hget;have hnin:n∈objs'.map Prod.fst:=y9.2 ⟨_,hin0,rfl⟩;refine s6 ho (.inl ⟨by simp[Region.wanted,hg],cL (ps:=⟨T,objs'⟩) h hs0 hdo λps' a' w' S' β' hK hsim=>?_⟩);obtain⟨hK1,hK2⟩:=hK;rw[hK2] at hsim;refine hnext hK1 hsim λy=>?_;obtain⟨y1,y2⟩:=y;rw[oL h.obj.nd hnin,EMem.eff hinj ho hik hm he hLs,hin,hxX]
    |pure hm he hs1 hO =>
     have hgo:∀ n o,yK lim n=some o->yK objs' n=some o:=λn o hg=>by obtain⟨q1,q2⟩:=hlim n o hg;exact uE h.obj.nd ((hin _).2 (.inl ⟨.inl q1,λ⟨j,_,q3,_⟩=>q2 j q3⟩))
     (have hs2:vL true lim ops o (zD T) pvs[i]:=t9 hagree hs1;have hfin:∀ y,y∈objs'↔EMem ops es k O0 X (Lst (L.setIfInBounds i true)) y:=λy=>by rw[EMem.pure ho hm he hLs y,hin y]);refine s6 ho ?_
     rcases dN h.tmp hs2 with⟨hw,hA⟩|⟨hw,hB⟩;{refine .inl ⟨hw,Q2 h (Vz hgo hA) λpv w' S' β' v hpv l hr=>?_⟩;refine hnext (S':=S') (β':=β') (T':=(put ⟨T,[]⟩ o.dst pvs[i]).tmps) (xJ _ _ _) ?_ hfin;rw[xJ];exact l.put o.dst hdo (hr.le _ hpv)};{refine .inr ⟨hw,hnext (S':=S) (β':=β) (T':=(put ⟨T,[]⟩ o.dst pvs[i]).tmps) (xJ _ _ _) ?_ hfin⟩;rw[xJ];refine h.put o.dst hdo ?_;rw[hB];exact eX _ _ _}
theorem eP {P:List Nat}{w:World}{S:Nat->Nat->Prop}{β:Bm}{v:Value}{pv:PV}(h:Rep w S β v pv):Rep w S β v (scA P pv):=by
 cases pv with
 |agg cs=>exact wI _| tup cs=>exact wI _| fn f cs=>exact wI _| ptr m off=>simp only[scA];cases yM m P <;> first|exact h|exact wI _
 |aptr m s i off=>simp only[scA];cases yM m P <;> first|exact h|exact wI _
 |osl m s i len=>simp only[scA];cases yM m P <;> first|exact h|exact wI _
 |_=>exact h
theorem Uw {P:List Nat}{w:World}{S:Nat->Nat->Prop}{β:Bm}{v:Value}{pv:PV}(h:Rep w S β v pv):Rep w S β v (scB P pv):=by
 cases pv with
 |agg cs =>
  obtain⟨vs,rfl,h1,h2⟩:=qZ h;exact .agg (by grind [zN]) λj hj=>by rw[zN] at hj;rw[yP _ rfl];grind [eP]
 |tup cs =>
  obtain⟨vs,rfl,h1,h2⟩:=dF h;exact .tup (by grind [zN]) λj hj=>by rw[zN] at hj;rw[yP _ rfl];grind [eP]
 |fn f cs =>
  obtain⟨vs,rfl,h1,h2⟩:=dH h;exact .fn (by grind [zN]) λj hj=>by rw[zN] at hj;rw[yP _ rfl];grind [eP]
 |_=>first|exact eP (P:=P) h|exact h
theorem nM {P:List Nat}{w:World}{S:Nat->Nat->Prop}{β:Bm}{v:Value}{pv:PV}(h:Rep w S β v pv):Rep w S β v (scC P pv):=by
 cases pv with
 |agg cs =>
  obtain⟨vs,rfl,h1,h2⟩:=qZ h;exact .agg (by grind [zN]) λj hj=>by rw[zN] at hj;rw[yP _ rfl];grind [Uw]
 |tup cs =>
  obtain⟨vs,rfl,h1,h2⟩:=dF h;exact .tup (by grind [zN]) λj hj=>by rw[zN] at hj;rw[yP _ rfl];grind [Uw]
 |fn f cs =>
  obtain⟨vs,rfl,h1,h2⟩:=dH h;exact .fn (by grind [zN]) λj hj=>by rw[zN] at hj;rw[yP _ rfl];grind [Uw]
 |_=>exact eP (P:=P) h
theorem aT (f g h:PV->PV)(H:∀ v,f (g v)=h v):∀ l:List PV,wW f (wW g l)=wW h l
 |[]=>rfl| v::r=>by simp only[wW,H,aT f g h H r]
theorem p5 (f g:PV->PV)(H:∀ v,f v=g v):∀ l:List PV,wW f l=wW g l
 |[]=>rfl| v::r=>by simp only[wW,H,p5 f g H r]
theorem CC (m n:Nat):nqb m n=nqb n m:=by grind [nqb]
theorem Xj {P P':List Nat}(H:∀ m,yM m P=true->yM m P'=true)(v:PV):scA P' (scA P v)=scA P' v:=by
 have key:∀ {m:Nat} {x:PV},(∀ y,scA P' y=scA P' y)->(yM m P'=true->scA P' x=.any)->scA P' (match yM m P with|true=>PV.any|false=>x)=scA P' x:=by
  intro m x _ hx;cases h:yM m P with
  |true=>rw[hx (H m h)];rfl
  |false=>rfl
 cases v with
 |ptr m off=>exact key (λ_=>rfl) (λh=>by simp only[scA,h])| aptr m s i off=>exact key (λ_=>rfl) (λh=>by simp only[scA,h])| osl m s i len=>exact key (λ_=>rfl) (λh=>by simp only[scA,h])| _=>rfl
def tZ:PV->Bool
 |.agg _=>true| .tup _=>true| .fn _ _=>true| _=>false
theorem JP {P:List Nat}{v:PV}(h:tZ v=false):scB P v=scA P v:=by cases v <;> first|rfl|cases h
theorem JO {P:List Nat}{v:PV}(h:tZ v=false):scC P v=scA P v:=by cases v <;> first|rfl|cases h
theorem JQ {n:Nat}{v:PV}(h:tZ v=false):sc1 n v=sc0 n v:=by cases v <;> first|rfl|cases h
theorem JM {n:Nat}{v:PV}(h:tZ v=false):scr n v=sc0 n v:=by cases v <;> first|rfl|cases h
theorem Ch {n:Nat}{v:PV}(h:tZ v=false):rf1 n v=rf0 n v:=by cases v <;> first|rfl|cases h
theorem Cg {n:Nat}{v:PV}(h:tZ v=false):xN n v=rf0 n v:=by cases v <;> first|rfl|cases h
theorem o9 (P:List Nat)(v:PV):tZ (scA P v)=false:=by
 cases v with
 |ptr m off=>simp only[scA];cases yM m P <;> rfl
 |aptr m s i off=>simp only[scA];cases yM m P <;> rfl
 |osl m s i len=>simp only[scA];cases yM m P <;> rfl
 |_=>rfl
theorem Jb (n:Nat)(v:PV):tZ (sc0 n v)=false:=by
 cases v with
 |ptr m off=>simp only[sc0];cases nqb m n <;> rfl
 |aptr m s i off=>simp only[sc0];cases nqb m n <;> rfl
 |osl m s i len=>simp only[sc0];cases nqb m n <;> rfl
 |_=>rfl
theorem DF {P P':List Nat}(H:∀ m,yM m P=true->yM m P'=true)(v:PV):scB P' (scB P v)=scB P' v:=by
 cases hv:tZ v with
 |false=>grind [JP,o9,Xj]| true=>cases v <;> first|(cases hv;done)|(simp only[scB];rw[aT _ _ _ (Xj H)])
theorem Q7 {P P':List Nat}(H:∀ m,yM m P=true->yM m P'=true)(v:PV):scC P' (scC P v)=scC P' v:=by
 cases hv:tZ v with
 |false=>grind [JO,o9,Xj]| true=>cases v <;> first|(cases hv;done)|(simp only[scC];rw[aT _ _ _ (DF H)])
theorem Uy (n:Nat)(P:List Nat)(v:PV):sc0 n (scA P v)=scA (n::P) v:=by
 have e:∀ m,yM m (n::P)=(nqb m n || yM m P):=λm=>by show (nqb n m || yM m P)=_;rw[CC]
 cases v with
 |ptr m off=>grind [scA,sc0]| aptr m s i off=>grind [scA,sc0]| osl m s i len=>grind [scA,sc0]| _=>rfl
theorem AU (n:Nat)(P:List Nat)(v:PV):sc1 n (scB P v)=scB (n::P) v:=by
 cases hv:tZ v with
 |false=>grind [JP,JQ,o9,Uy]| true=>cases v <;> first|(cases hv;done)|(simp only[scB,sc1];rw[aT _ _ _ (Uy n P)])
theorem HQ (n:Nat)(P:List Nat)(v:PV):scr n (scC P v)=scC (n::P) v:=by
 cases hv:tZ v with
 |false=>grind [JO,JM,o9,Uy]| true=>cases v <;> first|(cases hv;done)|(simp only[scC,scr];rw[aT _ _ _ (AU n P)])
theorem Zr {P P':List Nat}(H:∀ m,yM m P=yM m P')(v:PV):scA P v=scA P' v:=by
 cases v with
 |ptr m off=>simp only[scA,H]| aptr m s i off=>simp only[scA,H]| osl m s i len=>simp only[scA,H]| _=>rfl
theorem Fa {P P':List Nat}(H:∀ m,yM m P=yM m P')(v:PV):scB P v=scB P' v:=by
 cases hv:tZ v with
 |false=>grind [JP,Zr]| true=>cases v <;> first|(cases hv;done)|(simp only[scB];rw[p5 _ _ (Zr H)])
theorem cG {P P':List Nat}(H:∀ m,yM m P=yM m P')(v:PV):scC P v=scC P' v:=by
 cases hv:tZ v with
 |false=>grind [JO,Zr]| true=>cases v <;> first|(cases hv;done)|(simp only[scC];rw[p5 _ _ (Fa H)])
theorem J1 (n:Nat)(v:PV):rf0 n (sc0 n v)=true:=by
 cases v with
 |ptr m off=>grind [sc0,rf0]| aptr m s i off=>grind [sc0,rf0]| osl m s i len=>grind [sc0,rf0]| _=>rfl
theorem lE {f:PV->Bool}{g:PV->PV}(H:∀ v,f (g v)=true):∀ l:List PV,yX f (wW g l)=true
 |[]=>rfl| v::r=>by simp only[wW,yX,H,lE H r];rfl
theorem P0 (n:Nat)(v:PV):rf1 n (sc1 n v)=true:=by
 cases hv:tZ v with
 |false=>grind [JQ,Ch,Jb,J1]| true=>cases v <;> first|(cases hv;done)|exact lE (J1 n) _
theorem J0 (n:Nat)(v:PV):xN n (scr n v)=true:=by
 cases hv:tZ v with
 |false=>grind [JM,Cg,Jb,J1]| true=>cases v <;> first|(cases hv;done)|exact lE (P0 n) _
theorem Hk {n:Nat}(hn:n<1000000)(T:List (Nat×PV))(O:List (Nat×Obj')):yO n ⟨xW (scr n) T,y6 (scr n) (xK O n)⟩=true:=by
 have h1:∀ T:List (Nat×PV),r4 n (xW (scr n) T)=true:=by
  intro T;induction T with
  |nil=>rfl| cons a r ih=>grind [xW,r4,J0]
 have h2:xV n (y6 (scr n) (xK O n))=true:=Yb hn λm o hm=>by
  obtain⟨o',q1,q2⟩:=wR _ hm;refine⟨(wT q1).2,?_⟩;cases o' with
  |box cs=>subst q2;exact lE (J0 n) cs| arr s e=>subst q2;trivial| log s e=>subst q2;trivial| lent s e=>subst q2;trivial| mat s r q=>subst q2;exact oC (J0 n) q
 grind [yO]
def scO (P:List Nat):Obj'->Obj':=xY (scC P)
theorem aH (P:List Nat){l:List (Nat×Obj')}{y:Nat×Obj'}:y∈y6 (scC P) l↔∃ o,(y.1,o)∈l/\y.2=scO P o:=by
 constructor;{intro h;exact wR (n:=y.1) (o:=y.2) _ h}
 ·(rintro⟨o,h1,h2⟩;have:=r9 (scC P) h1;have e:y=(y.1,xY (scC P) o):=by rw[<-show scO P o=xY (scC P) o from rfl,<-h2]);grind
theorem DE {P:List Nat}{w:World}{S:Nat->Nat->Prop}{β:Bm}{n:Nat}{o:Obj'}(h:ObjAt w S β n o):ObjAt w S β n (scO P o):=ObjAt.map rfl (λ_ _ hx=>nM hx) h
theorem HR {P:List Nat}{o:Obj'}{i:Nat}(h:j3 o i):j3 (scO P o) i:=r5 h
theorem VY (f g h:PV->PV)(H:∀ v,f (g v)=h v):∀ l:List (PV×(Unit->Nat)),gG f (gG g l)=gG h l
 |[]=>rfl| (v,k)::r=>by simp only[gG,H,VY f g h H r]
theorem XR (f g:PV->PV)(H:∀ v,f v=g v):∀ l:List (PV×(Unit->Nat)),gG f l=gG g l
 |[]=>rfl| (v,k)::r=>by simp only[gG,H,XR f g H r]
theorem Yh (f g h:PV->PV)(H:∀ v,f (g v)=h v)(o:Obj'):xY f (xY g o)=xY h o:=by
 cases o with
 |box cs=>grind [xY,aT]| mat s r q=>grind [xY,VY]| _=>rfl
theorem Yi (f g:PV->PV)(H:∀ v,f v=g v)(o:Obj'):xY f o=xY g o:=by
 cases o with
 |box cs=>simp only[xY];rw[p5 _ _ H]| mat s r q=>simp only[xY];rw[XR _ _ H]| _=>rfl
theorem Q6 {P P':List Nat}(H:∀ m,yM m P=true->yM m P'=true)(o:Obj'):scO P' (scO P o)=scO P' o:=Yh _ _ _ (Q7 H) o
theorem JN {P P':List Nat}(H:∀ m,yM m P=yM m P'):scO P=scO P':=funext λo=>Yi _ _ (cG H) o
theorem nK {P P':List Nat}(H:∀ m,yM m P=yM m P')(o:Obj'):scO P o=scO P' o:=Yi _ _ (cG H) o
theorem Sim.weak {τ τ':Nat->PV}{objs objs':List (Nat×Obj')}{a:Act}{w:World}{S:Nat->Nat->Prop}{β:Bm}(h:Sim w0 S0 K0 N τ objs a w S β)(hτ:∀ t v,Rep w S β v (τ t)->Rep w S β v (τ' t))(hnd:(objs'.map Prod.fst).Nodup) (ho:∀ n o',(n,o')∈objs'->∃ o,(n,o)∈objs/\(ObjAt w S β n o->ObjAt w S β n o')/\(∀ i,j3 o i->j3 o' i)/\∀ b,Own β n o' b->Own β n o b):Sim w0 S0 K0 N τ' objs' a w S β where
 dfr:=h.dfr
 sz:=h.sz
 ld:=h.ld
 tmp t:=hτ t _ (h.tmp t)
 obj:=⟨hnd,λn o hm=>by obtain⟨o1,q1,q2,_⟩:=ho n o hm;exact q2 (h.obj.at_ n o1 q1),
  λn o b hm hβ=>by obtain⟨o1,q1,_,q3,q4⟩:=ho n o hm;exact⟨λi hS=>q3 i ((h.obj.un n o1 b q1 (q4 b hβ)).1 i hS),(h.obj.un n o1 b q1 (q4 b hβ)).2⟩,
  λn o m o' b hm hm' hβ hβ'=>by obtain⟨x,q1,_,_,g1⟩:=ho n o hm;obtain⟨y,q2,_,_,g2⟩:=ho m o' hm';exact h.obj.inj _ _ _ _ b q1 q2 (g1 b hβ) (g2 b hβ')⟩
 own n o b hm hβ:=by obtain⟨x,q1,_,_,g1⟩:=ho n o hm;exact h.own n x b q1 (g1 b hβ)
 keep n o hm hb:=by obtain⟨x,q1,_⟩:=ho n o hm;exact h.keep n x q1 hb
def PL (B:Nat->Bool):List (Nat×Nat)->List Nat
 |[]=>[]| (e,m)::r=>(match B e with|true=>m::PL B r|false=>PL B r)
theorem fN:∀ {l:List Nat} {n:Nat},yM n l=true↔n∈l:=λ{l n}=>⟨vK,sM⟩
theorem fJ {B:Nat->Bool}{m:Nat}:∀ {es:List (Nat×Nat)},m∈PL B es↔∃ e,(e,m)∈es/\B e=true
 |[]=>by simp[PL]| (e,x)::r=>by
  unfold PL;cases hb:B e with
  |true =>
   simp only[yS,fJ (es:=r)];grind
  |false =>
   simp only[fJ (es:=r),yS];grind
theorem ZL {an:List Nat}{i m:Nat}:∀ {es:List (Nat×Nat)},m∈fX an i es↔∃ e,(e,m)∈es/\(an.getD e 0).testBit i=false
 |[]=>by simp[fX]| (e,x)::r=>by
  unfold fX;cases hb:(an.getD e 0).testBit i with
  |true =>
   simp only[ZL (es:=r),yS];grind
  |false =>
   simp only[yS,ZL (es:=r)];grind
theorem kH (P:List Nat):∀ (T:List (Nat×PV)) (t:Nat),zD (sR P T) t=(match yM t P with|true=>zD T t|false=>scC P (zD T t))
 |[],t=>by grind [sR,zD,scC,scA]| (u,v)::r,t=>by
  simp only[sR,zD];cases hu:nqb u t with
  |true=>grind [y5]| false=>exact kH P r t
inductive ApStep (ops:List Oper) (es:List (Nat×Nat)) (an:List Nat) (lim:List (Nat×Obj')) (i:Nat) (o:Oper) (τ:Nat->PV) (pv:PV) (O O':List (Nat×Obj')):Prop
 |app {n x x0} (he:y4 es i=some n) (hd:o.dst=some n) (hg:o.guard=none) (h0:yK O n=some x0) (hpv:∀ e m,(e,m)∈es->(an.getD i 0).testBit e=false->m≠n->scr m pv=pv) (hx0:∀ P,scO P x0=x0) (hx:∀ P,scO P x=x)
   (hfix:∀ t,t∈qR ops o->(∃ a b c,τ t=.osl n a b c)\/(∀ P,scC P (τ t)=τ t)\/t∈Jn an i es)
   (hgo:∀ (T':List (Nat×PV)) (O1:List (Nat×Obj')),(∀ t,t∈qR ops o->zD T' t=τ t)->yK O1 n=some x0->yO n ⟨xW (scr n) T',y6 (scr n) (xK O1 n)⟩=true ->
    ∃ ps1,Wk ⟨T',O1⟩ ps1/\dX o ps1 (λp=>zD p.tmps=upd (λt=>scr n (zD T' t)) (some n) pv/\p.objs=y6 (scr n) (xK O1 n)++[(n,x)])) (hO:O'=setO O n x)
 |pure (he:y4 es i=none) (h:vL false (y6 (scC (fX an i es)) lim) ops o (λt=>scC (fX an i es) (τ t)) pv) (hO:O'=O)
theorem oS {v:PV}(h:jN v=true):v=.nil\/v=.emp:=by cases v <;> first|exact .inl rfl|exact .inr rfl|exact absurd h (by simp[jN])
theorem SI {ops:List Oper}{o:Oper}{n:Nat}{T:List (Nat×PV)}{O:List (Nat×Obj')}{K:PV->Obj'->Prop}(h:TA o n T O K):∃ pv x x0,K pv x/\o.dst=some n/\o.guard=none/\yK O n=some x0/\(∀ m,m≠n->scr m pv=pv)/\(∀ P,scO P x0=x0)/\(∀ P,scO P x=x) /\ (∀ t,t∈qR ops o->(∃ a b c,zD T t=.osl n a b c)\/∀ P,scC P (zD T t)=zD T t) /\ ∀ (T':List (Nat×PV)) (O1:List (Nat×Obj')),(∀ t,t∈qR ops o->zD T' t=zD T t)->yK O1 n=some x0->yO n ⟨xW (scr n) T',y6 (scr n) (xK O1 n)⟩=true ->∃ ps1,Wk ⟨T',O1⟩ ps1/\dX o ps1 (λp=>zD p.tmps=upd (λt=>scr n (zD T' t)) (some n) pv/\p.objs=y6 (scr n) (xK O1 n)++[(n,x)]):=by
 have sn:∀ (m s:Nat) (a b:Unit->Nat),m≠n->scr m (.osl n s a b)=.osl n s a b:=λm s a b h=>by
  simp only[scr,sc0];cases e:nqb n m with
  |true=>exact absurd (y5 e).symm h| false=>rfl
 unfold TA at h;cases hg:o.guard with
 |some g=>grind| none =>
 rw[hg] at h;simp only at h;split at h
 ·rename_i c hop;split at h
  ·rename_i hcl;split at h
   ·rename_i b x t tx d hargs htys hd;split at h
    ·(rename_i hc;simp only[xA] at hc;have hdn:=y5 hc.2;subst hdn;obtain⟨s,bb,z,xs,lg,els,h1,h2,h3,h5,hcase⟩:=h.h;have hmk:∀ (e:Unit->List (List D)) (P:List Nat),scO P (fQ lg s e)=fQ lg s e:=λe P=>by cases lg <;> rfl);have hlk:∀ u,u∈qR ops o->(b=.tmp u\/x=.tmp u):=λu hu=>by
      (unfold qR at hu;rw[hg] at hu;simp only[vM] at hu;rw[List.mem_filterMap] at hu;obtain⟨y,hy1,hy2⟩:=hu;have hy3:y=b\/y=x:=by grind [Op.operands,Call.operands]);grind
     rcases hcase with⟨o',len,h4,h6,h7,h8,h9⟩|⟨h4,h8,h9⟩
     ·refine⟨_,_,_,h9,hd,rfl,h5,λm=>sn m _ _ _,hmk _,hmk _,λu hu=>?_,λT' O1 hT hO hfr=>⟨_,.refl _,?_⟩⟩;{rcases hlk u hu with e|e;{rw[e] at h4;exact .inl ⟨_,_,_,h4⟩};{rw[e] at h2;rcases h2 with h2|⟨h2,_⟩;{exact .inr λP=>by rw[show zD T u=_ from h2];rfl};{exact .inr λP=>by rw[show zD T u=_ from h2];rfl}}}
      ·(have hev:=oO hg hT;have e1:ev (zD T') b=.osl d s o' len:=by grind [Op.operands,Call.operands]);have e2:ev (zD T') x=ev (zD T) x:=hev x (by grind [Op.operands,Call.operands])
       unfold dX;simp only[hop,hcl];rw[hargs,htys];simp only[hc.1];refine⟨.inl ⟨⟨T',O1⟩,d,d,s,bb,z,xs,.refl _,hd,h1,.inl (by grind),h3,.inr ⟨lg,d,o',len,els,els,e1,hO,h6,h7,by rw[h7];simp,λ_=>rfl,h8,hfr,?_,rfl⟩⟩⟩;grind [gH,upd,uJ,b8]
     ·refine⟨_,_,_,h9,hd,rfl,h5,λm=>sn m _ _ _,hmk _,λ_=>rfl,λu hu=>?_,λT' O1 hT hO hfr=>⟨_,.refl _,?_⟩⟩;{rcases hlk u hu with e|e;{rw[e] at h4;rcases oS h4 with h4|h4;{exact .inr λP=>by rw[show zD T u=_ from h4];rfl};{exact .inr λP=>by rw[show zD T u=_ from h4];rfl}};{rw[e] at h2;rcases h2 with h2|⟨h2,_⟩;{exact .inr λP=>by rw[show zD T u=_ from h2];rfl};{exact .inr λP=>by rw[show zD T u=_ from h2];rfl}}}
      ·(have hev:=oO hg hT;have e1:jN (ev (zD T') b)=true:=by grind [Op.operands,Call.operands]);have e2:ev (zD T') x=ev (zD T) x:=hev x (by grind [Op.operands,Call.operands])
       have hsc:∀ (y:Operand),(jN (ev (zD T') y)=true\/∃ a,ev (zD T') y=.sl a)->ev (zD (xW (scr d) T')) y=ev (zD T') y:=λy hy=>by
        cases y with
        |tmp u =>
         have e:ev (zD (xW (scr d) T')) (.tmp u)=scr d (ev (zD T') (.tmp u)):=uJ _ (b8 d) _ _;rw[e];rcases hy with hy|⟨a,hy⟩;{rcases oS hy with hy|hy <;> rw[hy] <;> rfl};{rw[hy];rfl}
        |_=>rfl
       (have e3:jN (ev (zD (xW (scr d) T')) b)=true:=by grind);have e4:ev (zD (xW (scr d) T')) x=ev (zD T) x:=by grind [jN]
       unfold dX;simp only[hop,hcl];rw[hargs,htys];simp only[hc.1];refine⟨.inl ⟨⟨xW (scr d) T',y6 (scr d) (xK O1 d)⟩,d,d,s,bb,z,xs,.drop d,hd,h1,.inl (by grind),h3,.inl ⟨e3,h8,hfr,?_,rfl⟩⟩⟩;grind [gH,upd,uJ,b8]
    grind
   grind
  ·rename_i g hcl;split at h
   ·rename_i d hd;split at h
    ·rename_i hc;have hdn:=y5 hc;subst hdn;obtain⟨f,caps,hn,cargs,m,k,s,els,els',o',l',h1,h2,h3,h4,hm,hkd,h5,h6,h7,h8⟩:=h.h;have hlk:∀ u,u∈qR ops o->.tmp u∈c.args.toList:=λu hu=>by
      (unfold qR at hu;rw[hg] at hu;simp only[vM] at hu;rw[List.mem_filterMap] at hu;obtain⟨y,hy1,hy2⟩:=hu;have:y=.tmp u:=by grind);subst this
      rw[hop] at hy1;simp only[Op.operands,Call.operands,hcl,Array.toList_append,wZ] at hy1;rcases hy1 with hy1|hy1;{simp at hy1;subst hy1;cases h2};omega
     have hfx:∀ (l:List Operand) (u:Nat),Operand.tmp u∈l->yX (Tq d) (evs (ev (zD T)) l)=true->Tq d (zD T u)=true:=by
      intro l u;induction l with
      |nil=>grind| cons y l ih =>
       intro h q;simp only[evs,yX,xA] at q;rcases yS.1 h with e|h;{subst e;exact q.1};grind
     refine⟨_,_,_,h8,hd,rfl,h5,λm=>sn m _ _ _,λ_=>rfl,λ_=>rfl,λu hu=>?_,λT' O1 hT hO hfr=>⟨_,.refl _,?_⟩⟩
     ·have:=hfx _ u (hlk u hu) h7;generalize zD T u=v at this ⊢;cases v with
      |osl m' a b c =>
       have e:=y5 (show nqb m' d=true from this);grind
      |agg _=>cases this
      |tup _=>cases this
      |fn _ _=>cases this
      |ptr _ _=>cases this
      |aptr _ _ _ _=>cases this
      |_=>exact .inr λP=>rfl
     ·(have hev:=oO hg hT;have e1:ev (zD T') g=.fn f caps:=by grind [Op.operands,Call.operands]);have e2:evs (ev (zD T')) c.args.toList=evs (ev (zD T)) c.args.toList:=pF λy hy=>hev y (by grind [Op.operands,Call.operands])
      unfold dX;simp only[hop,hcl];refine⟨⟨T',O1⟩,.refl _,f,caps,e1,.inr ⟨hn,cargs,[],[(m,.arr s els)],_,[],[(k,.arr s els')],by grind,h4,⟨⟨by rw[hm];exact hO,rfl⟩,trivial⟩,rfl,rfl,rfl,rfl,?_,h6,rfl,?_,?_⟩⟩;{show (yO (hn k) (rQ hn [(m,.arr s els)] ⟨T',O1⟩)&&true)=true;rw[Bool.and_true,hkd];show yO d ⟨xW (scr (hn m)) T',y6 (scr (hn m)) (xK O1 (hn m))⟩=true;grind};{show nmIn [k] (.osl k s o' l')=true;simp[nmIn,nm0,yM]}
      ·have e3:aD hn [(m,.arr s els)] [] [(k,.arr s els')] ⟨T',O1⟩=⟨xW (scr d) T',y6 (scr d) (xK O1 d)++[(d,.arr s els')]⟩:=by show (⟨xW (scr (hn m)) T',y6 (scr (hn m)) (xK O1 (hn m))++[(hn k,.arr s els')]⟩:PS)=_;grind
       (rw[e3,hd];have e4:ren hn (.osl k s o' l')=.osl d s o' l':=by show PV.osl (hn k) s o' l'=_;rw[hkd]);rw[e4]
       refine⟨?_,rfl⟩;funext t;show zD (vQ (xW (scr d) T') d _) t=_;grind [gH,upd,uJ,b8]
    grind
   grind
  grind
 ·rename_i t hop;split at h
  ·rename_i d x s els hm hO0;split at h
   ·rename_i hc;have hdn:=y5 hc;subst hdn;obtain⟨_,hd,t',hop',hno,hx⟩:=gY hm;rw[hop] at hop';cases hop';subst hx;refine⟨_,_,_,h,hd,rfl,hO0,λm hm=>?_,λ_=>rfl,λP=>?_,λu hu=>?_,λT' O1 hT hO hfr=>⟨_,.drop d,?_⟩⟩
    ·simp only[scr,sc0];cases e:nqb d m with
     |true=>exact absurd (y5 e).symm hm| false=>rfl
    {show Obj'.box (wW (scC P) (ty t).zero)=_;rw[QO (Q:=λl=>wW (scC P) l=l) hno rfl (λv l ih=>by simp only[wW,ih];congr 1;unfold w7;split <;> rfl) rfl]};{exfalso;unfold qR at hu;rw[hg,hop] at hu;simp[Op.operands] at hu};{unfold dX;simp only[hop,hd,hno];unfold ZC;rw[hfr];refine⟨?_,rfl⟩;funext u;show zD (vQ (xW (scr d) T') d _) u=_;grind [gH,upd,uJ,b8]}
   {cases h}
  {cases h}
 grind
theorem WS {an:List Nat}{i m:Nat}:∀ {es:List (Nat×Nat)},m∈Jn an i es↔∃ e,(e,m)∈es/\(an.getD i 0).testBit e=true
 |[]=>by simp[Jn]| (e,x)::r=>by
  unfold Jn;cases hb:(an.getD i 0).testBit e with
  |true =>
   simp only[yS,WS (es:=r)];grind
  |false =>
   simp only[WS (es:=r),yS];grind
theorem XL {an:List Nat}{i m:Nat}:∀ {es:List (Nat×Nat)},m∈Fr an i es↔∃ e,(e,m)∈es/\(an.getD i 0).testBit e=false
 |[]=>by simp[Fr]| (e,x)::r=>by
  unfold Fr;cases hb:(an.getD i 0).testBit e with
  |true =>
   simp only[XL (es:=r),yS];grind
  |false =>
   simp only[yS,XL (es:=r)];grind
theorem XV {f:PV->PV}{g:PV->Bool}(h:∀ v,g v=true->f v=v):∀ l,yX g l=true->wW f l=l
 |[],_=>rfl| v::r,q=>by simp only[yX,xA] at q;simp only[wW,h v q.1,XV h r q.2]
theorem JR {n:Nat}{v:PV}(h:rf0 n v=true):sc0 n v=v:=by cases v <;> first|rfl|(cases h;done)|(simp only[rf0,WY] at h;simp only[sc0,h])
theorem Pm {n:Nat}{v:PV}(h:rf1 n v=true):sc1 n v=v:=by
 cases hv:tZ v with
 |false=>rw[JQ hv];exact JR (by rwa [Ch hv] at h)| true=>cases v <;> first|(cases hv;done)|(simp only[sc1];rw[XV (λ_=>JR) _ h])
theorem DD {n:Nat}{v:PV}(h:xN n v=true):scr n v=v:=by
 cases hv:tZ v with
 |false=>rw[JM hv];exact JR (by rwa [Cg hv] at h)| true=>cases v <;> first|(cases hv;done)|(simp only[scr];rw[XV (λ_=>Pm) _ h])
theorem Bh {v:PV}(h:qT v=true)(P:List Nat):scC P v=v:=by cases v <;> first|rfl|cases h
theorem iL {T:List (Nat×PV)}{n:Nat}{A:List Nat}:∀ {l:List (Nat×Operand)},nO T n A l=true->∀ t,.tmp t∈l.map (·.2)->xN n (zD T t)=true/\(qT (zD T t)=true\/t∈A)
 |(j,x)::r,h,t,ht=>by
  rw[kK,yS] at ht;cases x with
  |tmp u =>
   simp only[nO,xA,QL] at h;rcases ht with e|ht;{cases e;exact⟨h.1.1,h.1.2.imp id vK⟩};{exact iL h.2 t ht}
  |_ =>
   rcases ht with e|ht;{cases e};{exact iL (by simpa only [nO] using h) t ht}
 |[],_,t,ht=>by simp at ht
theorem SP {ops:List Oper}{es:List (Nat×Nat)}{an:List Nat}{i:Nat}{o:Oper}{n:Nat}{T:List (Nat×PV)}{O:List (Nat×Obj')}{K:PV->Obj'->Prop}(h:TR es an i o n T O K):∃ pv x x0,K pv x/\o.dst=some n/\o.guard=none/\yK O n=some x0/\(∀ e m,(e,m)∈es->(an.getD i 0).testBit e=false->m≠n->scr m pv=pv)/\(∀ P,scO P x0=x0)/\(∀ P,scO P x=x) /\ (∀ t,t∈qR ops o->(∃ a b c,zD T t=.osl n a b c)\/(∀ P,scC P (zD T t)=zD T t)\/t∈Jn an i es) /\ ∀ (T':List (Nat×PV)) (O1:List (Nat×Obj')),(∀ t,t∈qR ops o->zD T' t=zD T t)->yK O1 n=some x0->yO n ⟨xW (scr n) T',y6 (scr n) (xK O1 n)⟩=true ->∃ ps1,Wk ⟨T',O1⟩ ps1/\dX o ps1 (λp=>zD p.tmps=upd (λt=>scr n (zD T' t)) (some n) pv/\p.objs=y6 (scr n) (xK O1 n)++[(n,x)]):=by
 unfold TR at h;split at h
 ·rename_i t parts d s els hg hop hd hO0;split at h
  ·rename_i nn fs z hty;split at h
   ·rename_i cs hcs;split at h
    ·(rename_i hc;simp only[xA] at hc;obtain⟨⟨hc1,hc2⟩,hc3⟩:=hc;have hdn:=y5 hc1;subst hdn;have hpo:=iL hc2;have hops:∀ x,x∈parts.toList.map (·.2)->x∈o.op.operands.toList:=λx hx=>by rw[hop];simpa[Op.operands] using hx);have hops':∀ x,x∈o.op.operands.toList->x∈parts.toList.map (·.2):=λx hx=>by rw[hop] at hx;simpa[Op.operands] using hx
     have hlk:∀ u,u∈qR ops o↔.tmp u∈parts.toList.map (·.2):=λu=>by
      unfold qR;rw[hg];simp only[vM];rw[List.mem_filterMap];constructor
      ·(rintro⟨y,hy1,hy2⟩;have:y=.tmp u:=by grind);subst this
       exact hops' _ hy1
      {intro hu;exact⟨_,hops _ hu,rfl⟩}
     refine⟨_,_,_,h,hd,hg,hO0,λe m he hb hm=>?_,λ_=>rfl,λ_=>rfl,λu hu=>?_,λT' O1 hT hO hfr=>⟨_,.trans (.drop d) (.fresh d s hfr),?_⟩⟩
     ·have hall:∀ (l:List Nat),YO d (.agg cs) l=true->∀ m,m∈l->(nqb m d || xN m (.agg cs))=true:=by
       intro l;induction l with
       |nil=>grind| cons a r ih=>grind [YO]
      have:=hall _ hc3 m (XL.2 ⟨e,he,hb⟩);rw[QL] at this;exact DD (this.resolve_left λq=>hm (y5 q))
     {obtain⟨g1,g2⟩:=hpo u ((hlk u).1 hu);exact .inr (g2.imp (λg=>Bh g) id)}
     ·have hev:vA (ev (zD (xW (scr d) T'))) parts.toList=vA (ev (zD T)) parts.toList:=bC λy hy=>by
       cases y with
       |tmp u =>
        show zD (xW (scr d) T') u=zD T u;rw[uJ _ (b8 d),hT u ((hlk u).2 hy)];exact DD (hpo u hy).1
       |_=>rfl
      unfold dX;simp only[hop];unfold sop;simp only[hty];rw[hev,hcs,hd];refine⟨?_,rfl⟩;funext u;show zD (vQ (xW (scr d) T') d _) u=_;grind [gH,upd,uJ,b8]
    {cases h}
   {cases h}
  {cases h}
 {cases h}
theorem B3 {ops:List Oper}{es:List (Nat×Nat)}{an:List Nat}{lim:List (Nat×Obj')}{K:List (Nat×PV)->List (Nat×Obj')->Prop}:∀ (l:List Oper) (i:Nat) {T:List (Nat×PV)} {O:List (Nat×Obj')},QB ops es an lim l i T O K ->∃ (pvs:List PV) (Ob:Nat->List (Nat×Obj')) (T':List (Nat×PV)),pvs.length=l.length/\Ob 0=O/\K T' (Ob l.length)/\zD T'=uH l pvs (zD T) /\ ∀ j o pv,l[j]?=some o->pvs[j]?=some pv->ApStep ops es an lim (i+j) o (uH (l.take j) (pvs.take j) (zD T)) pv (Ob j) (Ob (j+1))
 |[],i,T,O,h=>⟨[],λ_=>O,T,rfl,rfl,h,rfl,λj o pv h=>by simp at h⟩| o::r,i,T,O,h=>by
  obtain⟨pv,O1,T1,h1,ht1,hst⟩:∃ pv O1 T1,QB ops es an lim r (i+1) T1 O1 K/\zD T1=upd (zD T) o.dst pv/\ApStep ops es an lim i o (zD T) pv O O1:=by
   unfold QB at h;cases he:y4 es i with
   |some n =>
    rw[he] at h;simp only at h;cases hb:Ri o.op with
    |true =>
     rw[hb] at h;obtain⟨pv,x,x0,q1,q2,q3,q4,q5,q6,q7,q8,q9⟩:=SP (ops:=ops) h;exact⟨pv,_,_,q1,xJ _ _ _,.app he q2 q3 q4 q5 q6 q7 q8 q9 rfl⟩
    |false =>
     rw[hb] at h;obtain⟨pv,x,x0,q1,q2,q3,q4,q5,q6,q7,q8,q9⟩:=SI (ops:=ops) h;exact⟨pv,_,_,q1,xJ _ _ _,.app he q2 q3 q4 (λ_ m _ _=>q5 m) q6 q7 (λt ht=>(q8 t ht).imp id .inl) q9 rfl⟩
   |none =>
    rw[he] at h;simp only at h;have hm:zD (xW (scC (fX an i es)) T)=λt=>scC (fX an i es) (zD T t):=funext λt=>uJ _ rfl _ _;rw[hm] at h;rcases t8 h with⟨pv,q1,q2⟩|⟨q1,q2⟩;{obtain⟨pv',p,g1,g2,g3,g4⟩:=mN q1;exact⟨pv',O,p.tmps,g2,g4,.pure he (q2 pv' g1) rfl⟩};{exact⟨.tup [],O,_,q1,xJ _ _ _,.pure he q2 rfl⟩}
  obtain⟨pvs,Ob,T',g1,g2,g3,g4,g5⟩:=B3 r (i+1) h1;refine⟨pv::pvs,λj=>match j with|0=>O|j+1=>Ob j,T',by simp[g1],rfl,by omega,by rw[g4,ht1];rfl,λj o' pv' hj hp=>?_⟩;cases j with
  |zero =>
   simp only[l8,t5] at hj hp;subst hj hp;show ApStep ops es an lim i o _ pv O (Ob 0);rw[g2];exact hst
  |succ j =>
   simp only[m8] at hj hp;have:=g5 j o' pv' hj hp;rw[ht1] at this;rw[show i+(j+1)=i+1+j by omega];exact this
theorem XY:∀ {es:List (Nat×Nat)} {i m:Nat},y4 es i=none->(i,m)∉es
 |(a,b)::r,i,m,h,hm=>by
  unfold y4 at h;cases ha:nqb a i with
  |true=>grind| false =>
   rw[ha] at h;rcases yS.1 hm with e|hm;{simp_all};{exact XY h hm}
 |[],i,m,_,hm=>by grind
theorem mC:∀ {es:List (Nat×Nat)} {m:Nat},m∈kZ es↔∃ e,(e,m)∈es
 |[],m=>by simp[kZ]| (e,x)::r,m=>by
  simp only[kZ,yS,mC (es:=r)];constructor
  ·rintro (rfl|⟨e',h⟩)
   all_goals grind
  grind
def W6 (es:List (Nat×Nat)) (O0:List (Nat×Obj')) (X:Nat->Obj') (B:Nat->Bool) (y:Nat×Obj'):Prop :=
 ∃ o,(y.1,o)∈O0/\y.2=scO (PL B es) (match yM y.1 (PL B es) with|true=>X y.1|false=>o)
theorem eE {es:List (Nat×Nat)}{O0:List (Nat×Obj')}{X:Nat->Obj'}{B B':Nat->Bool}(h:∀ m,yM m (PL B es)=yM m (PL B' es))(y:Nat×Obj'):W6 es O0 X B y↔W6 es O0 X B' y:=by grind [W6,nK]
theorem Ry {es:List (Nat×Nat)}{B B':Nat->Bool}(h:∀ e m,(e,m)∈es->B e=B' e)(m:Nat):yM m (PL B es)=yM m (PL B' es):=by rw[rK,fN,fN,fJ,fJ];grind
theorem Ma {es:List (Nat×Nat)}{B B':Nat->Bool}{i n:Nat}(hi:(i,n)∈es)(hu:∀ m,(i,m)∈es->m=n)(hB:∀ e,B' e=(B e || nqb e i))(m:Nat):yM m (PL B' es)=yM m (n::PL B es):=by
 rw[rK,fN,fN,fJ,yS,fJ];constructor;{rintro⟨e,h1,h2⟩;rw[hB] at h2;simp only[QL] at h2;grind [y5]}
 ·rintro (rfl|⟨e,h1,h2⟩)
  all_goals grind [nqb_self]
def Pk (n:Nat):Obj'->Obj':=xY (scr n)
theorem TE {ops:List Oper}{k:Nat}(D:DrawOk ops k){Q:Exit->Act->World->Prop}{K:PS->Prop}(hdst:∀ o,o∈ops->tV N o=true)(hk:∀ ps' a' w' S' β',K ps'->Sim w0 S0 K0 N (zD ps'.tmps) ps'.objs a' w' S' β'->Q .normal a' w') {T0 T2:List (Nat×PV)} {O0 O2:List (Nat×Obj')} {pvs:List PV} {es:List (Nat×Nat)} {X:Nat->Obj'} {Ob:Nat->List (Nat×Obj')} (hkl:k<=ops.length) (hlen:pvs.length=(ops.take k).length) (hK:jB ops (ops.drop k) ⟨sR (kZ es) T2,O2⟩ K) (ht2:zD T2=uH (ops.take k) pvs (zD T0)) (hO2:∀ y,y∈O2↔W6 es O0 X (λj=>decide (j<k)) y) (hnd2:(O2.map Prod.fst).Nodup) (hes:∀ e m,(e,m)∈es->e<k/\m<1000000/\y4 es e=some m) (hinj:∀ {i j n},y4 es i=some n->y4 es j=some n->i=j) (hst:∀ i o pv,(ops.take k)[i]?=some o->pvs[i]?=some pv->ApStep ops es (anc ops) (gJ (kZ es) O0) i o (uH ((ops.take k).take i) (pvs.take i) (zD T0)) pv (Ob i) (Ob (i+1))) (h0:∀ i n x0,i<k->y4 es i=some n->yK (Ob i) n=some x0->(n,x0)∈O0) (hX:∀ i n x x0,i<k->y4 es i=some n->yK (Ob i) n=some x0->Ob (i+1)=setO (Ob i) n x->X n=x) (hnd0:(O0.map Prod.fst).Nodup):∀ (fuel:Nat) (L:Array Bool) {a:Act} {w:World} {S:Nat->Nat->Prop} {β:Bm} {G:List (Nat×PV)} {objs':List (Nat×Obj')},L.size=ops.length->(∀ j,j<ops.length->k<=j->¬Lst L j)->(∀ i o,ops[i]?=some o->Lst L i->pM (Lst L) o)->unl L ops.length<=fuel ->Sim w0 S0 K0 N (zD (sR (PL (λi=>L.getD i false) es) G)) objs' a w S β->(∀ y,y∈objs'↔W6 es O0 X (λi=>L.getD i false) y)->At ops k pvs (zD T0) (Lst L) (zD G)->wpAny Pg .any ops.toArray Q fuel L a w:=by
 have hpl:k<=pvs.length:=by grind
 have htx:At ops k pvs (zD T0) (λj=>j<k) (zD T2):=by have htx:=At.text (τ0:=zD T0) D hlen k (yQ _);grind
 have hall1:∀ {L:Array Bool},(∀ j,j<k->Lst L j)->(∀ m,yM m (PL (λi=>L.getD i false) es)=yM m (kZ es))/\∀ m,yM m (PL (λi=>L.getD i false) es)=yM m (PL (λj=>decide (j<k)) es):=by intro L hfull;refine⟨λm=>?_,Ry λe m he=>?_⟩;{rw[rK,fN,fN,fJ,mC];exact⟨λ⟨e,h1,_⟩=>⟨e,h1⟩,λ⟨e,h1⟩=>⟨e,h1,hfull e (hes e m h1).1⟩⟩};grind [Lst]
 have hendT:∀ {G:List (Nat×PV)} {L:Array Bool},(∀ j,j<k->Lst L j)->At ops k pvs (zD T0) (Lst L) (zD G)->zD (sR (PL (λi=>L.getD i false) es) G)=zD (sR (kZ es) T2):=by
  (intro G L hfull hat;have hg:zD G=zD T2:=by funext t;exact hat.same D hpl htx λj o hj ho hd=>.inl ⟨hfull j hj,hj⟩);funext t;rw[kH,kH,hg,(hall1 hfull).1,cG (hall1 hfull).1]
 intro fuel;induction fuel with
 |zero =>
  (intro L a w S β G objs' hsz hge hcl hun h hin hat;have hall:=eN (Nat.le_zero.1 hun);have hall':∀ j,j<ops.length->Lst L j:=λj hj=>by have h1:=hall j hj;rw[vX oM true false] at h1;exact h1);have hkn:ops.length<=k:=by rcases uG k ops.length with h'|h';{grind};omega
  have hfull:∀ j,j<k->Lst L j:=λj hj=>hall' j oM;refine Ud D hdst hk 0 k L (ps:=⟨sR (kZ es) T2,O2⟩) (S:=S) (β:=β) (yQ _) hkl hsz (λj hj=>⟨λ_=>by omega,λ_=>hall' j hj⟩) oM ?_ hK;show Sim w0 S0 K0 N (zD (sR (kZ es) T2)) O2 a w S β;rw[<-hendT hfull hat];exact h.perm (λx=>by rw[hO2 x,hin x,eE (hall1 hfull).2 x]) hnd2
 |succ fuel ih =>
  intro L a w S β G objs' hsz hge hcl hun h hin hat;by_cases hfull:∀ j,j<k->Lst L j
  ·refine Ud D hdst hk (fuel+1) k L (ps:=⟨sR (kZ es) T2,O2⟩) (S:=S) (β:=β) (yQ _) hkl hsz (λj hj=>⟨λhl=>?_,λhj'=>hfull j hj'⟩) ?_ ?_ hK;{rcases uG j k with h'|h';{exact h'};grind}
   ·have cnt:∀ n,k<=n->n<=ops.length->n<=k+unl L n:=by
     intro n;induction n with
     |zero=>omega| succ n ihn =>
      intro hkn hn;simp only[unl];by_cases hk0:k=n+1;{omega}
      ·(have:=ihn oM oM;have hnl:=hge n oM oM;have:L.getD n true≠true:=by rw[vX oM true false];exact hnl);grind
    grind
   {show Sim w0 S0 K0 N (zD (sR (kZ es) T2)) O2 a w S β;rw[<-hendT hfull hat];exact h.perm (λx=>by rw[hO2 x,hin x,eE (hall1 hfull).2 x]) hnd2}
  ·have hun0:∃ j,j<k/\¬Lst L j/\∀ i,i<j->Lst L i:=by
    have:∀ n,n<=k->(∀ i,i<n->Lst L i)\/∃ j,j<k/\¬Lst L j/\∀ i,i<j->Lst L i:=by
     intro n;induction n with
     |zero=>grind| succ n ihn =>
      intro hn;rcases ihn oM with h1|h1;{by_cases hx:Lst L n;{refine .inl λi hi=>?_;by_cases e:i=n;{grind};grind};{exact .inr ⟨n,by omega,hx,h1⟩}};{exact .inr h1}
    rcases this k (yQ _) with h1|h1;{grind};omega
   obtain⟨j0,hj0,hnj0,hbelow⟩:=hun0;refine⟨λhr=>?_,λi hi=>?_⟩
   ·(exfalso;have hlt:j0<ops.length:=by omega);have hin:j0∈Region.ready .any ops.toArray L:=by
     refine mem_ready.2 ⟨?_,ops[j0],by simp[hlt],λe he hb=>?_⟩
     ·rw[vX oM true false];cases hx:L.getD j0 false with
      |false=>rfl| true=>exact absurd hx hnj0
     {exact hbelow e.on (D.back j0 _ (uW hlt) e (by grind) hb)}
    grind
   ·(obtain⟨h1,o,h2,h3⟩:=mem_ready.1 hi;have ho:ops[i]?=some o:=by simpa using h2);have hlt:i<ops.length:=(w8.1 ho).1
    have hE:pM (Lst L) o:=λe he hb=>h3 e (by simpa using he) hb;have hik:i<k:=by rcases uG i k with h'|h';{exact h'};{exact absurd (x8 hcl ho hE (D.rest i j0 hlt h' oM)) hnj0}
    (have hp:pvs[i]?=some pvs[i]:=uW oM;have hdo:=pJ (hdst o (yE ho));have hsize:i<L.size:=by omega);have hnl:¬Lst L i:=λhl=>by rw[vX oM true false] at h1;unfold Lst at hl;grind
    have hagree:∀ t,t∈qR ops o->uH ((ops.take k).take i) (pvs.take i) (zD T0) t=zD G t:=λt ht=>At.same D hpl (At.text D hlen i oM) hat λj oj hj hoj hd=>by rcases D.look i o t j oj hik hj ho hoj ht hd with⟨q1,q2⟩|⟨q1,q2⟩;{exact .inl ⟨q1,x8 hcl ho hE q2⟩};{refine .inr ⟨by omega,λhl=>?_⟩;have:=x8 hcl hoj (hcl j oj hoj hl) q2;grind}
    (have hLs:∀ j,Lst (L.setIfInBounds i true) j↔Lst L j\/j=i:=qF hsize;have hB:∀ e,(L.setIfInBounds i true).getD e false=(L.getD e false || nqb e i):=λe=>by have:=hLs e;unfold Lst at this;rw[rK,this,QL,nqb_iff]);have hnext:∀ {a':Act} {w':World} {S':Nat->Nat->Prop} {β':Bm} {G':List (Nat×PV)} {objs3:List (Nat×Obj')},zD G'=upd (zD G) o.dst pvs[i]->Sim w0 S0 K0 N (zD (sR (PL (λe=>(L.setIfInBounds i true).getD e false) es) G')) objs3 a' w' S' β' ->
      (∀ y,y∈objs3↔W6 es O0 X (λe=>(L.setIfInBounds i true).getD e false) y)->wpAny Pg .any ops.toArray Q fuel (L.setIfInBounds i true) a' w':=by
     intro a' w' S' β' G' objs3 hT hsim g1;refine ih (L.setIfInBounds i true) (by simpa using hsz) (λj hj hkj hl=>?_) (λj oj hoj hl=>?_) ?_ hsim g1 (by rw[hT];exact hat.step D hik ho hp λj=>qF hsize j);{rcases (qF hsize j).1 hl with hl|hl;{exact hge j hj hkj hl};{omega}};{intro e he hb;rw[qF hsize];rcases (qF hsize j).1 hl with hl|hl;{exact .inl (hcl j oj hoj hl e he hb)};{subst hl;rw[ho] at hoj;cases hoj;exact .inl (hE e he hb)}};{have:=YA h1 hlt;omega}
    have hG':zD (put ⟨G,[]⟩ o.dst pvs[i]).tmps=upd (zD G) o.dst pvs[i]:=xJ _ _ _;have hlist:∀ e m,(e,m)∈es->L.getD e false=true->∃ oe,ops[e]?=some oe/\oe.dst=some m/\∀ i' n',y4 es i'=some n'->¬Lst L i'->n'≠m->scr n' (zD G m)=zD G m:=λe m he hle=>by
     obtain⟨q1,q2,q3⟩:=hes e m he;have hoe:ops[e]?=some ops[e]:=uW oM;have hpe:pvs[e]?=some pvs[e]:=uW oM;cases hst e ops[e] pvs[e] (by rw[uX q1];exact hoe) hpe with
     |pure he' _ _=>rw[he'] at q3;cases q3
     |app he' hd hg h0' hpv _ _ _ _ _ =>
      rw[he'] at q3;cases q3;refine⟨_,hoe,hd,λi' n' h1 h2 h3=>?_⟩;rw[hat.hit e _ _ _ q1 hle hoe hpe hd];refine hpv i' n' (jF h1) ?_ h3;cases hx:((anc ops).getD e 0).testBit i' with
      |false=>rfl| true=>exact absurd (x8 hcl hoe (hcl e _ hoe hle) hx) h2
    have hPn:∀ n,y4 es i=some n->yM n (PL (λe=>L.getD e false) es)=false:=λn hn=>by
     cases hx:yM n (PL (λe=>L.getD e false) es) with
     |false=>rfl| true =>
      obtain⟨e,q1,q2⟩:=fJ.1 (vK hx);have:=hinj (hes e n q1).2.2 hn;subst this;exact absurd q2 hnl
    have hstep:=hst i o pvs[i] (by rw[uX hik];exact ho) hp;generalize hPP:PL (λe=>L.getD e false) es=P at *;cases hstep with
    | @app n x x0 he hd hg hget hpv hx0 hx hfix hgo hO =>
     (have hXx:X n=x:=hX i n x x0 hik he hget hO;have hin0:(n,x0)∈O0:=h0 i n x0 hik he hget;have hnP:=hPn n he;have hino:(n,x0)∈objs':=by rw[hin];refine⟨x0,hin0,?_⟩;show x0=scO (PL _ es) (match yM n (PL _ es) with|true=>X n|false=>x0);rw[hPP,hnP];exact (hx0 P).symm);have hgetr:yK objs' n=some x0:=uE h.obj.nd hino;have hfixr:∀ t,t∈qR ops o->zD (sR P G) t=uH ((ops.take k).take i) (pvs.take i) (zD T0) t:=λt ht=>by
      rw[kH,hagree t ht];cases hm:yM t P with
      |true=>rfl| false =>
       rw[<-hagree t ht];rcases hfix t ht with⟨a1,b1,c1,e⟩|e|e;{rw[e];simp only[scC,scA,hnP]};{exact e P};{obtain⟨j,q1,q2⟩:=WS.1 e;have q3:=sM ((fJ (B:=λe=>L.getD e false)).2 ⟨j,q1,x8 hcl ho hE q2⟩);rw[hPP,hm] at q3;cases q3}
     (have hmn:=(hes i n (jF he)).2.1;obtain⟨ps1,hwk,hs0⟩:=hgo (sR P G) objs' hfixr hgetr (Hk hmn _ _);obtain⟨S1,β1,h1s⟩:=hwk.sound (ps:=⟨sR P G,objs'⟩) h;have hPL:∀ m,yM m (PL (λe=>(L.setIfInBounds i true).getD e false) es)=yM m (n::P):=λm=>by rw[<-hPP];exact Ma (jF he) (λm' hm'=>by have:=(hes i m' hm').2.2;rw[he] at this;cases this;rfl) hB m);refine s6 ho (.inl ⟨by simp[Region.wanted,hg],cL (ps:=ps1) h1s hs0 hdo λps' a' w' S' β' hK hsim=>?_⟩);obtain⟨hK1,hK2⟩:=hK;rw[hK2] at hsim;have hTT:zD ps'.tmps=zD (sR (PL (λe=>(L.setIfInBounds i true).getD e false) es) (put ⟨G,[]⟩ o.dst pvs[i]).tmps):=by
      (rw[hK1];funext t;rw[kH,hG',hd,hPL t];show (if t=n then pvs[i] else scr n (zD (sR P G) t))=match nqb n t || yM t P with|true=>(if t=n then pvs[i] else zD G t)|false=>scC _ (if t=n then pvs[i] else zD G t));by_cases htn:t=n
      {subst htn;rw[nqb_self,if_pos rfl,if_pos rfl];rfl}
      ·have:nqb n t=false:=by
        cases hx:nqb n t with
        |false=>rfl| true=>exact absurd (y5 hx).symm htn
       rw[this,rL,if_neg htn,if_neg htn,kH];cases hm:yM t P with
       |true =>
        rw[<-hPP] at hm;obtain⟨e,q1,q2⟩:=fJ.1 (vK hm);obtain⟨oe,_,_,e1⟩:=hlist e t q1 q2;exact e1 i n he hnl λe=>htn e.symm
       |false =>
        show scr n (scC P (zD G t))=scC _ (zD G t);rw[HQ];exact (cG hPL _).symm
     (rw[hTT] at hsim;refine hnext hG' hsim λy=>?_;have hmemo:∀ z:Nat×Obj',z∈y6 (scr n) (xK objs' n)↔∃ o1,(z.1,o1)∈objs'/\z.1≠n/\z.2=Pk n o1:=λz=>by constructor;{intro hz;obtain⟨o1,q1,q2⟩:=wR (n:=z.1) (o:=z.2) _ hz;obtain⟨q3,q4⟩:=wT q1;exact⟨o1,q3,q4,q2⟩};{rintro⟨o1,q1,q2,q3⟩;have q4:=pA q1 q2;have:(z.1,Pk n o1)∈y6 (scr n) (xK objs' n):=r9 (scr n) q4;rw[<-q3] at this;exact this});rw[wZ,fZ,hmemo];unfold W6;have hsc:∀ o1:Obj',Pk n (scO P o1)=scO (n::P) o1:=λo1=>Yh _ _ _ (HQ n P) o1;constructor
     ·rintro (⟨o1,q1,q2,q3⟩|q)
      ·rw[hin] at q1;obtain⟨o2,q4,q5⟩:=q1;simp only at q4 q5;refine⟨o2,q4,?_⟩;rw[hPP] at q5;rw[q3,q5,hsc,nK hPL,hPL];show _=scO (n::P) (match nqb n y.1 || yM y.1 P with|true=>X y.1|false=>o2);rw[show nqb n y.1=false by
        cases hx:nqb n y.1 with
        |false=>rfl| true=>exact absurd (y5 hx).symm q2]
       rfl
      {subst q;refine⟨x0,hin0,?_⟩;rw[hPL,nK hPL];show x=scO (n::P) (match nqb n n || yM n P with|true=>X n|false=>x0);rw[nqb_self,Bool.true_or];show x=scO (n::P) (X n);rw[hXx,hx]}
     ·rintro⟨o2,q4,q5⟩;rw[hPL,nK hPL] at q5;by_cases hy:y.1=n;{right;have q6:y.2=scO (n::P) (match nqb n y.1 || yM y.1 P with|true=>X y.1|false=>o2):=q5;rw[hy,nqb_self,Bool.true_or] at q6;have q7:y.2=scO (n::P) (X n):=q6;rw[hXx,hx] at q7;cases y;simp only at hy q7;rw[hy,q7]}
      ·left;have hne:nqb n y.1=false:=by
        cases hx:nqb n y.1 with
        |false=>rfl| true=>exact absurd (y5 hx).symm hy
       have q6:y.2=scO (n::P) (match nqb n y.1 || yM y.1 P with|true=>X y.1|false=>o2):=q5;rw[hne,rL] at q6;refine⟨scO P (match yM y.1 P with|true=>X y.1|false=>o2),?_,hy,?_⟩;{rw[hin];exact⟨o2,q4,by rw[hPP]⟩};{rw[q6,hsc]}
    |pure he hs1 hO =>
     have hPL:∀ m,yM m (PL (λe=>(L.setIfInBounds i true).getD e false) es)=yM m P:=λm=>by
      rw[<-hPP];refine Ry (λe m' hm'=>?_) m;rw[hB];have:nqb e i=false:=by
       cases hx:nqb e i with
       |false=>rfl| true=>have:=y5 hx;subst this;exact absurd hm' (XY he)
      rw[this,Bool.or_false]
     have hsub:∀ m,yM m P=true->yM m (fX (anc ops) i es)=true:=λm hm=>by
      rw[<-hPP] at hm;obtain⟨e,q1,q2⟩:=fJ.1 (vK hm);refine sM (ZL.2 ⟨e,q1,?_⟩);cases hx:((anc ops).getD e 0).testBit i with
      |false=>rfl| true =>
       obtain⟨oe,hoe,_⟩:=hlist e m q1 q2;exact absurd (x8 hcl hoe (hcl e oe hoe q2) hx) hnl
     have hweak:∀ t v,Rep w S β v (zD (sR P G) t)->Rep w S β v (scC (fX (anc ops) i es) (zD G t)):=λt v hr=>by
      rw[kH] at hr;cases hm:yM t P with
      |true=>rw[hm] at hr;exact nM hr| false =>
       rw[hm] at hr;have:=nM (P:=fX (anc ops) i es) hr;simp only at this;rw[Q7 hsub] at this;exact this
     have hobj:∀ n o',(n,o')∈y6 (scC (fX (anc ops) i es)) (gJ (kZ es) O0)->∃ o,(n,o)∈objs'/\(ObjAt w S β n o->ObjAt w S β n o')/\(∀ i,j3 o i->j3 o' i)/\∀ b,Own β n o' b->Own β n o b:=λn o' hm=>by
      obtain⟨o1,q1,q2⟩:=(aH _).1 hm;simp only at q1 q2;obtain⟨q3,q4⟩:=XO q1;have hnn:yM n P=false:=by
       cases hx:yM n P with
       |false=>rfl| true =>
        rw[<-hPP] at hx;obtain⟨e,r1,_⟩:=fJ.1 (vK hx);exact absurd (mC.2 ⟨e,r1⟩) q4
      refine⟨scO P o1,(hin _).2 ⟨o1,q3,by rw[hPP,hnn]⟩,λhat=>?_,λj hj=>?_,λb hb=>?_⟩;{rw[q2,<-Q6 hsub];exact DE hat};{rw[q2,<-Q6 hsub];exact HR hj};{rw[q2] at hb;exact Cw (v4 hb)}
     (have hndl:((y6 (scC (fX (anc ops) i es)) (gJ (kZ es) O0)).map Prod.fst).Nodup:=by rw[gW];exact (Wz _ _).nodup hnd0);have hw2:=h.weak (τ':=λt=>scC (fX (anc ops) i es) (zD G t)) hweak hndl hobj;have hs2:vL false (y6 (scC (fX (anc ops) i es)) (gJ (kZ es) O0)) ops o (λt=>scC (fX (anc ops) i es) (zD G t)) pvs[i]:=t9 (λt ht=>by rw[hagree t ht]) hs1;have hndst:∀ d,o.dst=some d->yM d P=false:=λd hd=>by
      cases hx:yM d P with
      |false=>rfl| true =>
       rw[<-hPP] at hx;obtain⟨e,q1,q2⟩:=fJ.1 (vK hx);obtain⟨oe,hoe,hde,_⟩:=hlist e d q1 q2;have hek:=(hes e d q1).1;have:=pI D.dst (by rw[uX hek];exact hoe) (by rw[uX hik];exact ho) hde hd;subst this;exact absurd q2 hnl
     have hTT:upd (zD (sR P G)) o.dst (scC P pvs[i])=zD (sR (PL (λe=>(L.setIfInBounds i true).getD e false) es) (put ⟨G,[]⟩ o.dst pvs[i]).tmps):=by
      funext t;rw[kH,hG',hPL t];cases hd:o.dst with
      |none =>
       simp only[upd];rw[kH];cases yM t P with
       |true=>rfl| false=>exact (cG hPL _).symm
      |some d =>
       simp only[upd];by_cases htd:t=d;{subst htd;rw[if_pos rfl,if_pos rfl,hndst t hd];exact (cG hPL _).symm}
       ·rw[if_neg htd,if_neg htd,kH];cases yM t P with
        |true=>rfl| false=>exact (cG hPL _).symm
     (have hfin:∀ y,y∈objs'↔W6 es O0 X (λe=>(L.setIfInBounds i true).getD e false) y:=λy=>by rw[hin y];exact eE (λm=>by rw[hPP,hPL]) y);refine s6 ho ?_;rcases dN hw2.tmp hs2 with⟨hw,hA⟩|⟨hw,hBB⟩
     {refine .inl ⟨hw,iG hw2 hA λpv w' S' v hpv l hr=>?_⟩;refine hnext (S':=S') (β':=β) hG' ?_ hfin;rw[<-hTT];exact (h.go l).put o.dst hdo (nM (hr.le _ hpv))};{refine .inr ⟨hw,hnext (S':=S) (β':=β) hG' ?_ hfin⟩;rw[<-hTT];refine h.put o.dst hdo (nM ?_);rw[hBB];exact eX _ _ _}
theorem bT {m n:Nat}{x:Obj'}(hne:m≠n):∀ (l:List (Nat×Obj')),yK (setO l m x) n=yK l n
 |[]=>by show (match nqb m n with|true=>some x|false=>none)=none;grind [y5]| (u,v)::r=>by
  unfold setO;cases hu:nqb u m with
  |true =>
   grind [nqb,yK]
  |false =>
   show (match nqb u n with|true=>some v|false=>yK (setO r m x) n)=(match nqb u n with|true=>some v|false=>yK r n);rw[bT hne r]
section
variable {a:Act} {w:World} {S:Nat->Nat->Prop} {β:Bm}
theorem UK (ops:List Oper)(l:List Bool):Region.ready .any ops.toArray l.toArray=Cj ops l:=by
 unfold Region.ready Cj;simp only[Js];congr 1;funext i;have e1:l.toArray.getD i true=l.getD i true:=by simp_all
 rw[e1];congr 1;rw[List.getElem?_toArray];cases ops[i]? with
 |none=>rfl| some o =>
  simp only[Option.map_some,Jr];unfold GR;simp_all
theorem F7 {o:Oper}{a:Act}{w:World}{K:Act->World->Prop}{Q Q':Exit->Act->World->Prop}(h:∀ e a w,Q e a w->Q' e a w)(hh:o.wp Pg a w K Q):o.wp Pg a w K Q':=by
 unfold Oper.wp at *;generalize (execOp a.eval o).run Pg w=r at *;cases r with
 |ok n w' =>
  cases n with
  |enter f args =>
   rw[Oper.upon_enter] at *;refine hh.mono λe w'' q=>?_;cases e with
   |returned v=>exact q| panicked c=>grind| outgrown=>obtain⟨a',w1,q⟩:=q;exact⟨a',w1,h _ _ _ q⟩
  |_=>exact hh
 |halt x w' =>
  cases x with
  |panic v=>exact h _ _ _ hh| _=>exact hh
theorem Z6 {ops:Array Oper}{Q Q':Exit->Act->World->Prop}(h:∀ e a w,Q e a w->Q' e a w):∀ (f:Nat) (l:Array Bool) (a:Act) (w:World),wpAny Pg .any ops Q f l a w->wpAny Pg .any ops Q' f l a w
 |0,l,a,w,hh=>⟨hh.1,h _ _ _ hh.2⟩| f+1,l,a,w,hh=>⟨λe=>h _ _ _ (hh.1 e),λi hi=>by
  have:=wpOp_mono (λa w=>Z6 h f _ a w) (hh.2 i hi);unfold wpOp at *;split;{grind}
  ·rename_i o e;rw[e] at this;simp only at this;split;{rename_i hw;rw[if_pos hw] at this;rcases this with q|⟨q1,a',w1,q2⟩;{grind [F7]};{exact .inr ⟨q1,a',w1,h _ _ _ q2⟩}};grind⟩
theorem BM {o:Oper}{τ:Nat->PV}(hc:Hs o τ=true)(he:∀ x,Rep w S β (a.eval x) (ev τ x)){objs:List (Nat×Obj')}{K:PV->Prop}(hs:sop objs o.op (ev τ) K):∃ pv v,K pv/\Rep w S β v pv/\∀ w',(execOp a.eval o).run Pg w'=.ok (.value v) w':=by unfold Hs at hc;split at hc;{rename_i x hop;rw[hop] at hs;exact⟨_,_,hs,he x,λw'=>by simp[execOp,hop]⟩};{rename_i x hop;rw[hop] at hs;have hx:=he x;split at hc;{rename_i n off e;rw[e] at hx;obtain⟨b,hβ,hv⟩:=jH hx;simp only[sop] at hs;rw[e] at hs;exact⟨_,_,hs,.ptr hβ,λw'=>by simp[execOp,hop,hv]⟩};grind};{rename_i t x i hop;rw[hop] at hs;have hx:=he x;split at hc;{rename_i n fs z n' off ht e;split at hc;{rename_i f hf;rw[e] at hx;obtain⟨b,hβ,hv⟩:=jH hx;obtain⟨o1,s1,g1⟩:=f;obtain⟨fields,fld,h1,h2,h3,h4,h5,h6⟩:=Wh ht hf;simp only[sop] at hs;rw[ht,e] at hs;simp only[hf] at hs;refine⟨_,_,hs,.ptr hβ,λw'=>?_⟩;have:=bH (w:=w') ht hf b off;simp[execOp,hop,hv,this]};grind};{rename_i n fs z n' s' i' off ht e;split at hc;{rename_i f hf;rw[e] at hx;obtain⟨b,hβ,hv⟩:=jA hx;obtain⟨o1,s1,g1⟩:=f;obtain⟨fields,fld,h1,h2,h3,h4,h5,h6⟩:=Wh ht hf;simp only[sop] at hs;rw[ht,e] at hs;simp only[hf] at hs;refine⟨_,_,hs,.aptr hβ,λw'=>?_⟩;have:=bH (w:=w') ht hf b (i' ()*s'+off);rw[m9] at this;simp[execOp,hop,hv,this]};grind};grind};grind
theorem iC {ops:List Oper}{l:List Bool}{τ:Nat->PV}:∀ {r:List Nat} {j:Nat},Vv ops l τ r=some j->j∈r/\∃ o,ops[j]?=some o/\Hs o τ=true/\XJ o=true/\Region.free .any ops.toArray l.toArray j=true
 |[],j,h=>by cases h
 |i::r,j,h=>by
  unfold Vv at h;cases ho:ops[i]? with
  |none =>
   rw[ho] at h;have:=iC h;grind
  |some o =>
   rw[ho] at h;simp only at h;cases hc:Hs o τ&&XJ o&&Region.free .any ops.toArray l.toArray i with
   |false =>
    rw[hc] at h;have:=iC h;grind
   |true =>
    grind
theorem Jo {f:Nat->Prop}:∀ {r:List Nat},TY f r->∀ j,j∈r->f j
 |[],_,j,h=>by cases h
 |i::r,h,j,hj=>by rcases yS.1 hj with e|e;{rw[e];exact h.1};{exact Jo h.2 j e}
theorem oH {o:Oper}(h:XJ o=true)(y:Nat->Option Value):o.guard=none:=by grind [XJ]
theorem FU {o:Oper}{ps:PS}{K:PS->Prop}(hc:Hs o (zD ps.tmps)=true)(h:dX o ps K):sop ps.objs o.op (ev (zD ps.tmps)) (λv=>K (put ps o.dst v)):=by unfold Hs at hc;split at hc;{rename_i x hop;unfold dX at h;simp_all};{rename_i x hop;unfold dX at h;rw[hop] at h ⊢;exact h};{rename_i t x i hop;unfold dX at h;rw[hop] at h ⊢;exact h};grind
theorem QC {ops:List Oper}{K:PS->Prop}(hsel:Region.noSelect ops.toArray=true)(hdst:∀ o,o∈ops->tV N o=true):∀ (f:Nat) (l:List Bool) (ps:PS) {a:Act} {w:World} {S:Nat->Nat->Prop} {β:Bm},WR ops f l ps K->Sim w0 S0 K0 N (zD ps.tmps) ps.objs a w S β ->wpAny Pg .any ops.toArray (λe a w=>match e with|.normal=>∃ ps' S' β',K ps'/\Sim w0 S0 K0 N (zD ps'.tmps) ps'.objs a w S' β'|_=>False) f l.toArray a w
 |0,l,ps,a,w,S,β,hs,h=>by unfold WR at hs;unfold wpAny;rw[UK];grind| f+1,l,ps,a,w,S,β,hs,h=>by
  unfold WR at hs;cases hr:Cj ops l with
  |nil =>
   rw[hr] at hs;exact wpAny_done (by rw[UK,hr]) ⟨ps,S,β,hs,h⟩ _
  |cons i r =>
   (rw[hr] at hs;simp only at hs;have hd:∀ {o:Oper},o∈ops->∀ t,o.dst=some t->t<N:=λ{o} ho t ht=>by grind [tV]);cases ht:Vv ops l (zD ps.tmps) (i::r) with
   |some j =>
    rw[ht] at hs;simp only at hs;obtain⟨hj,o,ho,hc,hg,hf⟩:=iC ht;unfold HN at hs;rw[ho] at hs;simp only[hg] at hs;have hg':=oH hg (λ_=>none);obtain⟨pv,v,h1,h2,h3⟩:=BM (w:=w) (S:=S) (β:=β) (a:=a) hc (λx=>h.eval x) (FU hc hs);refine wpAny_take (i:=j) (oi:=o) (v:=v) (by grind) hsel hf (by grind [UK]) (λc a w q=>q.elim) (.inl ⟨by grind [Region.wanted],h3⟩) ?_;have:=QC hsel hdst f (l.set j true) _ h1 (vC h o.dst (hd (yE ho)) h2);grind
   |none =>
    rw[ht] at hs;simp only at hs;refine wpAny_all (rs:=i::r) (by rw[UK,hr]) (by simp) λj hj=>?_;have hs':=Jo hs j hj;unfold HN at hs';unfold wpOp;rw[List.getElem?_toArray];cases ho:ops[j]? with
    |none=>grind| some o =>
     rw[ho] at hs';simp only at hs' ⊢;cases hg:XJ o with
     |false=>grind| true =>
      rw[hg] at hs';have hg':=oH hg (λ_=>none);rw[if_pos (by grind [Region.wanted])];refine .inl (cL h hs' (hd (yE ho)) λps' a' w' S' β' hK hsim=>?_);have:=QC hsel hdst f (l.set j true) ps' hK hsim;grind
end
theorem CG {ms:List (Nat×Obj')}{T:List (Nat×PV)}{P:Prop}(h:VP ms T P):VO T ms=true/\P:=by
 cases ms with
 |nil=>exact⟨rfl,h⟩| cons m r=>exact h
theorem Hp {ops:List Oper}{ps:PS}{K:PS->Prop}(hs:DrawK ops ps K){Q:Exit->Act->World->Prop}(hdst:∀ o,o∈ops->tV N o=true)(hk:∀ ps' a' w' S' β',K ps'->Sim w0 S0 K0 N (zD ps'.tmps) ps'.objs a' w' S' β'->Q .normal a' w') {a:Act} {w:World} {S:Nat->Nat->Prop} {β:Bm} (h:Sim w0 S0 K0 N (zD ps.tmps) ps.objs a w S β):wpAny Pg .any ops.toArray Q ops.length (Array.replicate ops.length false) a w.drew:=by
 have hnone:∀ j,¬Lst (Array.replicate ops.length false) j:=by
  intro j hj;unfold Lst at hj;rcases uG j ops.length with h'|h'
  all_goals simp_all
 have hunl:∀ n,unl (Array.replicate ops.length false) n<=n:=by
  intro n;induction n with
  |zero=>exact yQ _| succ n ih=>grind [unl]
 cases hs with
 |st k i0 n us ps' hw hd hm hs =>
  (obtain⟨S1,β1,h1⟩:=hw.sound h;have D:=mX hd;have hkl:k<=ops.length:=by rcases uG ops.length k with h'|h';{obtain⟨o,ho⟩:=D.full ops.length h';grind};omega);simp only[QW,xA,bX,sZ] at hm;obtain⟨⟨hm1,hm2⟩,hm3⟩:=hm;have hi0:=mO hm1;cases hos:ops[i0]? with
  |none=>grind| some os =>
   (rw[hos] at hm2;simp only at hm2;obtain⟨hg,hnd,ts,ad,v,hop⟩:os.guard=none/\os.dst=none/\∃ ts ad v,os.op=.store ts ad v:=by grind);unfold QV at hs
   (obtain⟨pvs1,p1,g1,g2,g3,g4,g5⟩:=Df _ 0 hs;rw[hos] at g2;simp only at g2;obtain⟨objs2,q0,q1,q2⟩:=Dv (T:=p1.tmps) (objs:=p1.objs) hop hnd g2.2 g2.1;rw[g3] at q0;obtain⟨pvs2,p3,e1,e2,e3,e4,e5⟩:=QZ _ q1;have hlt0:i0<ops.length:=by omega);have l1:(ops.take i0).length=i0:=by grind
   have hsplit:ops.take k=ops.take i0++os::(ops.take k).drop (i0+1):=by
    (have a1:(ops.take k)[i0]?=some os:=by grind);obtain⟨a2,a3⟩:=w8.1 a1
    have a4:=Jp i0 (ops.take k);grind [List.drop_eq_getElem_cons]
   (have hpl:(pvs1++PV.any::pvs2).length=(ops.take k).length:=by grind);have hτ0:uH ((ops.take k).take i0) ((pvs1++PV.any::pvs2).take i0) (zD ps'.tmps)=zD p1.tmps:=by grind
   (have hp3:p3=⟨p3.tmps,objs2⟩:=by cases p3;grind);refine TD (T0:=ps'.tmps) (objs1:=ps'.objs) (objs2:=objs2) (ps2:=p3) (pvs:=pvs1++PV.any::pvs2) (os:=os) D hdst hk hi0 hos hg hkl hpl (by grind) ?_ ?_ ?_
    ops.length _ (by simp) (λj _ _=>hnone j) (λi o _ hl=>absurd hl (hnone i)) (hunl _) (h1.go (fF h1.ld.bnd)) (λq=>absurd q (hnone i0)) (λ_=>rfl)
    ⟨λj o t pv _ hl=>absurd hl (hnone j),λt _=>rfl⟩
   {rw[hsplit,Y3 oM];show _=uH _ pvs2 (upd (uH (ops.take i0) pvs1 (zD ps'.tmps)) os.dst .any);rw[hnd,<-g4,e4];rfl}
   ·(intro i o pv hik hne ho hp;have hb:=hm3 i hik;rw[ho] at hb;have hne':nqb i i0=false:=by grind [y5]);rw[hne',rL] at hb
    simp only[QL,xA] at hb;rcases Nat.lt_or_gt_of_ne hne with hlt|hlt
    ·have hs1:vL false ps'.objs ops o (uH ((ops.take k).take i) ((pvs1++PV.any::pvs2).take i) (zD ps'.tmps)) pv:=by
      (have a1:(ops.take i0)[i]?=some o:=by grind);grind
     refine⟨.inl hs1,?_⟩;rcases hb with ((hb|hb)|hb)|hb;{grind [Z7]};{grind};{have:=mO hb.1;omega}
     ·(refine .inl (Xc (q0 (by grind [yM])) ?_);have a1:(ops.take i0)[i]?=some o:=by grind);grind
    ·have hs2:vL false objs2 ops o (uH ((ops.take k).take i) ((pvs1++PV.any::pvs2).take i) (zD ps'.tmps)) pv:=by
      (obtain⟨m,rfl⟩:∃ m,i=i0+1+m:=⟨i-(i0+1),by omega⟩;have a1:((ops.take k).drop (i0+1))[m]?=some o:=by rw[d5,uX hik];exact ho);have a2:pvs2[m]?=some pv:=by
       (rw[dB oM] at hp;have:i0+1+m-pvs1.length=m+1:=by omega);rw[this,m8] at hp
       exact hp
      have:=e5 m o pv a1 a2;have b1:(ops.take k).take (i0+1+m)=ops.take i0++os::((ops.take k).drop (i0+1)).take m:=by
       (have hx:=congrArg (List.take (i0+1+m)) hsplit;rw[hx,List.take_append];have c1:(ops.take i0).take (i0+1+m)=ops.take i0:=yU oM;have c2:i0+1+m-(ops.take i0).length=m+1:=by omega);rw[c1,c2,GM]
      have b2:(pvs1++PV.any::pvs2).take (i0+1+m)=pvs1++PV.any::pvs2.take m:=by
       (rw[List.take_append];have c1:pvs1.take (i0+1+m)=pvs1:=yU oM;have c2:i0+1+m-pvs1.length=m+1:=by omega);rw[c1,c2,GM]
      rw[b1,b2,Y3 oM];show vL false _ _ _ (uH _ _ (upd (uH (ops.take i0) pvs1 (zD ps'.tmps)) os.dst .any)) _;rw[hnd,<-g4];exact this
     refine⟨?_,.inl hs2⟩;rcases hb with ((hb|hb)|hb)|hb;{grind [Z7]};{have:=mO hb.1;omega};{grind};{have:=mO hb.1;omega}
   ·intro T hT;have:=q2 (λp=>zD p.tmps=upd (zD T) os.dst ((pvs1++PV.any::pvs2).getD i0 .any)/\p.objs=objs2) T (λx hx=>?_) (by rw[hnd];exact⟨rfl,rfl⟩);{grind}
    ·cases x with
     |tmp t =>
      show zD T t=zD p1.tmps t;rw[hT t ?_,hτ0];unfold qR;grind
     |_=>rfl
 |ef k es ps' hw hd he hm hs =>
  (obtain⟨S1,β1,h1⟩:=hw.sound h;have D:=mX hd;have hkl:k<=ops.length:=by rcases uG ops.length k with h'|h';{obtain⟨o,ho⟩:=D.full ops.length h';grind};omega);simp only[xA] at hm;simp only[TC,xA,bX,sZ] at he;obtain⟨he1,he2⟩:=he;have hinj:∀ {i j n},y4 es i=some n->y4 es j=some n->i=j:=λh1 h2=>ZG he1 h1 h2;have hek:∀ i n,y4 es i=some n->i<k:=λi n h=>mO (he2 _ (jF h)).1.1;have hmkE:∀ i o x,ops[i]?=some o->vD o=some x->y4 es i=none:=λi o x ho hmk=>by
   cases hl:y4 es i with
   |none=>rfl| some n =>
    have:=(he2 _ (jF hl)).1.2;grind
  have hanc:∀ i n j oj x,i<k->y4 es i=some n->j<k->ops[j]?=some oj->vD oj=some (n,x)->((anc ops).getD i 0).testBit j=true:=λi n j oj x _ hi hj hoj hmk=>by have:=(he2 _ (jF hi)).2 j hj;simp only[hoj,hmk,nqb_self,Bool.not_true,rL] at this;omega
  (obtain⟨pvs,Ob,T2,g1,g2,g34,g5,g6⟩:=BB _ 0 hs;obtain⟨g3,g4⟩:=CG g34;have g6':∀ i o pv,(ops.take k)[i]?=some o->pvs[i]?=some pv->EfStep ops es (yR (ops.take k)) (gJ (kZ es) ps'.objs) i o (uH ((ops.take k).take i) (pvs.take i) (zD ps'.tmps)) pv (Ob i) (Ob (i+1)):=λi o pv q1 q2=>by grind);have hkt:(ops.take k).length=k:=by grind
  (have hms:=λx=>UZ (k:=k) (ops:=ops) (x:=x);have hndm:((ps'.objs++yR (ops.take k)).map Prod.fst).Nodup:=by rw[qS,l9];refine⟨h1.obj.nd,fO hm.1,?_⟩;intro x hx y hy e;subst e;obtain⟨⟨m,o⟩,q1,rfl⟩:=y9.1 hx;obtain⟨⟨m',o'⟩,q2,e2⟩:=y9.1 hy;have:=XN hm.2 q2;simp only[yO,xA] at this;exact (yY this.2 q1).1 e2.symm);have hop:∀ i,i<k->∃ o pv,ops[i]?=some o/\(ops.take k)[i]?=some o/\pvs[i]?=some pv:=λi hi=>by have q1:ops[i]?=some ops[i]:=uW oM;exact⟨_,_,q1,by grind,uW oM⟩
  have hnm:∀ i,i<=k->(Ob i).map Prod.fst=(ps'.objs++yR (ops.take i)).map Prod.fst:=by
   intro i;induction i with
   |zero=>intro _;rw[g2];simp[yR]| succ i ih =>
    (intro hi;obtain⟨o,pv,q1,q2,q3⟩:=hop i oM;have ih:=ih oM;have e:ops.take (i+1)=ops.take i++[o]:=by rw[rJ,q1];rfl);rw[e,gP]
    cases g6' i o pv q2 q3 with
    |mk hmk _ hO=>rw[hO,qS,ih];grind [yR]| eff hmk _ h0 _ _ _ hO=>rw[hO,uN (y9.2 ⟨_,xH h0,rfl⟩),ih];simp[yR,hmk]| pure hmk _ _ hO=>grind [yR]
  have hnd:∀ i,i<=k->((Ob i).map Prod.fst).Nodup:=λi hi=>by
   (rw[hnm i hi];have e:ops.take k=ops.take i++(ops.take k).drop i:=by have:=Jp i (ops.take k);grind);rw[e,gP,<-Zh,qS] at hndm;grind
  obtain⟨X,hXd⟩:∃ X:Nat->Obj',∀ i n x,y4 es i=some n->yK (Ob (i+1)) n=some x->X i=x:=⟨λi=>((y4 es i).bind (yK (Ob (i+1)))).getD (.box []),λi n x q1 q2=>by grind⟩;have hX:∀ i n x,i<k->y4 es i=some n->(n,x)∈Ob (i+1)->X i=x:=λi n x hi q1 q2=>hXd i n x q1 (uE (hnd (i+1) oM) q2);have hXin:∀ i n x0 x,yK (Ob i) n=some x0->(n,x)∈setO (Ob i) n x:=λi n x0 x q=>aG (y9.2 ⟨_,xH q,rfl⟩);have hOb:∀ i,i<=k->∀ y,y∈Ob i↔EMem ops es k ps'.objs X (λj=>j<i) y:=by
   intro i;induction i with
   |zero =>
    intro _ y;rw[g2];unfold EMem;constructor;{grind};grind
   |succ i ih =>
    (intro hi y;obtain⟨o,pv,q1,q2,q3⟩:=hop i oM;have ih:=ih oM;have hL:∀ j,j<i+1↔j<i\/j=i:=λj=>by omega);cases g6' i o pv q2 q3 with
    | @mk d x hmk _ hO =>
     have hno:∀ j,j<k->y4 es j=some d->¬j<i:=λj hj hje hji=>by
      (have hjo:ops[j]?=some ops[j]:=uW oM;have hL:∀ a oa,ops[a]?=some oa->a<j->pM (λb=>b<j) oa:=λa oa hoa haj e he hb=>by have:=D.back a oa hoa e he hb;omega);have:i<j:=x8 (L:=λb=>b<j) hL hjo (λe he hb=>D.back j _ hjo e he hb) (hanc j d i o x hj hje oM q1 hmk);omega
     rw[hO,wZ,fZ,EMem.mk q1 oM hmk (hmkE i o _ q1 hmk) hno hL y,ih y]
    | @eff n x x0 hmk he h0 _ _ _ hO =>
     have hxX:X i=x:=hX i n x oM he (by rw[hO];exact hXin _ _ _ _ h0);obtain⟨y1,y2⟩:=y;rw[hO,oL (hnd i oM) (y9.2 ⟨_,xH h0,rfl⟩),EMem.eff hinj q1 oM hmk he hL,ih,hxX]
    |pure hmk he _ hO=>rw[hO,EMem.pure q1 hmk he hL y,ih y]
  (rw[hkt] at g4;have hEM0:∀ y,y∈ps'.objs↔EMem ops es k ps'.objs X (Lst (Array.replicate ops.length false)) y:=λy=>by unfold EMem;constructor;{intro q;exact .inl ⟨.inl q,λ⟨j,_,_,q⟩=>hnone j q⟩};{rintro (⟨q|⟨j,oj,_,q,_⟩,_⟩|⟨j,_,_,q,_⟩);{exact q};{grind};grind});refine TF (T0:=ps'.tmps) (T2:=T2) (O0:=ps'.objs) (O2:=Ob k) (pvs:=pvs) (es:=es) (ms:=yR (ops.take k)) (lim:=gJ (kZ es) ps'.objs) (X:=X) (Ob:=Ob) D hdst hk hkl (by rw[g1]) g4 g5 (hOb k (yQ _)) (hnd k (yQ _)) hms ?_ ?_ hinj hmkE hanc (λi hi=>hOb i oM) g6' hX hXin
   ops.length _ (by simp) (λj _ _=>hnone j) (λi o _ hl=>absurd hl (hnone i)) (hunl _) (h1.go (fF h1.ld.bnd)) hEM0 ⟨λj o t pv _ hl=>absurd hl (hnone j),λt _=>rfl⟩
  {intro n x hx;have q1:=XN hm.2 hx;simp only[yO,xA] at q1;exact⟨uL q1.2,vP q1.1,λm o q=>yY q1.2 q,λt ht=>Kt ht (VN g3 hx)⟩};{intro n o q;obtain⟨q1,q2⟩:=V7 _ q;refine⟨xH q2,λi hi=>?_⟩;rw[sM (Xe (jF hi))] at q1;cases q1}
 |ap k es ps' hw hd he hs =>
  (obtain⟨S1,β1,h1⟩:=hw.sound h;have D:=mX hd;have hkl:k<=ops.length:=by rcases uG ops.length k with h'|h';{obtain⟨o,ho⟩:=D.full ops.length h';grind};omega);simp only[TW,xA,bX] at he;obtain⟨he1,he2⟩:=he;have hinj:∀ {i j n},y4 es i=some n->y4 es j=some n->i=j:=λh1 h2=>ZG he1 h1 h2;have hes:∀ e m,(e,m)∈es->e<k/\m<1000000/\y4 es e=some m:=λe m hm=>by
   obtain⟨⟨q1,q2⟩,q3⟩:=he2 _ hm;refine⟨mO q1,mO q2,?_⟩;cases hl:y4 es e with
   |none=>grind| some n=>simp only[hl] at q3;rw[y5 q3]
  (obtain⟨pvs,Ob,T2,g1,g2,g3,g5,g6⟩:=B3 _ 0 hs;have g6':∀ i o pv,(ops.take k)[i]?=some o->pvs[i]?=some pv->ApStep ops es (anc ops) (gJ (kZ es) ps'.objs) i o (uH ((ops.take k).take i) (pvs.take i) (zD ps'.tmps)) pv (Ob i) (Ob (i+1)):=λi o pv q1 q2=>by grind);have hkt:(ops.take k).length=k:=by grind
  (have hop:∀ i,i<k->∃ o pv,ops[i]?=some o/\(ops.take k)[i]?=some o/\pvs[i]?=some pv:=λi hi=>by have q1:ops[i]?=some ops[i]:=uW oM;exact⟨_,_,q1,by grind,uW oM⟩);have hnm:∀ i,i<=k->(Ob i).map Prod.fst=ps'.objs.map Prod.fst:=by
   intro i;induction i with
   |zero=>grind| succ i ih =>
    intro hi;obtain⟨o,pv,q1,q2,q3⟩:=hop i oM;have ih:=ih oM;cases g6' i o pv q2 q3 with
    |app _ _ _ h0 _ _ _ _ _ hO=>rw[hO,uN (y9.2 ⟨_,xH h0,rfl⟩),ih]| pure _ _ hO=>grind
  have hnd:∀ i,i<=k->((Ob i).map Prod.fst).Nodup:=λi hi=>by rw[hnm i hi];exact h1.obj.nd
  
  have hbef:∀ i,i<=k->∀ n,(∀ j,y4 es j=some n->i<=j)->yK (Ob i) n=yK ps'.objs n:=by
   intro i;induction i with
   |zero=>grind| succ i ih =>
    intro hi n hn;obtain⟨o,pv,q1,q2,q3⟩:=hop i oM;have ih:=ih oM n (λj hj=>by grind);cases g6' i o pv q2 q3 with
    | @app m _ _ he' _ _ _ _ _ _ _ _ hO =>
     grind [bT]
    |pure _ _ hO=>grind
  have haft:∀ d i,i+d<=k->∀ n,(∀ j,y4 es j=some n->j<i)->yK (Ob (i+d)) n=yK (Ob i) n:=by
   intro d;induction d with
   |zero=>grind| succ d ih =>
    intro i hi n hn;obtain⟨o,pv,q1,q2,q3⟩:=hop (i+d) oM;have ih:=ih i oM n hn;cases g6' (i+d) o pv q2 q3 with
    | @app m _ _ he' _ _ _ _ _ _ _ _ hO =>
     rw[show i+(d+1)=i+d+1 by omega,hO,bT (λe=>?_),ih];grind
    |pure _ _ hO=>grind
  have hX:∀ i n x x0,i<k->y4 es i=some n->yK (Ob i) n=some x0->Ob (i+1)=setO (Ob i) n x->(yK (Ob k) n).getD (.box [])=x:=λi n x x0 hi he' h0 hO=>by
   (have e1:yK (Ob (i+1)) n=some x:=by refine uE (hnd _ oM) ?_;rw[hO];exact aG (y9.2 ⟨_,xH h0,rfl⟩));have e2:=haft (k-(i+1)) (i+1) oM n (λj hj=>by grind);rw[show i+1+(k-(i+1))=k by omega,e1] at e2;grind
  have hfinO:∀ y,y∈y6 (scC (kZ es)) (Ob k)↔W6 es ps'.objs (λn=>(yK (Ob k) n).getD (.box [])) (λj=>decide (j<k)) y:=λy=>by
   (have hPS:∀ m,yM m (PL (λj=>decide (j<k)) es)=yM m (kZ es):=λm=>by rw[rK,fN,fN,fJ,mC];grind);rw[aH];unfold W6;rw[hPS,JN hPS];have hname:∀ n,(∃ o,(n,o)∈Ob k)↔∃ o,(n,o)∈ps'.objs:=λn=>by
    (have e:∀ l:List (Nat×Obj'),(∃ o,(n,o)∈l)↔n∈l.map Prod.fst:=λl=>by grind);grind
   cases hy:yM y.1 (kZ es) with
   |true =>
    constructor;{rintro⟨o,q1,q2⟩;obtain⟨o',q3⟩:=(hname _).1 ⟨o,q1⟩;refine⟨o',q3,?_⟩;show y.2=scO (kZ es) ((yK (Ob k) y.1).getD (.box []));rw[uE (hnd k (yQ _)) q1];exact q2};{rintro⟨o,q1,q2⟩;obtain⟨o',q3⟩:=(hname _).2 ⟨o,q1⟩;refine⟨o',q3,?_⟩;have q2':y.2=scO (kZ es) ((yK (Ob k) y.1).getD (.box [])):=q2;rw[uE (hnd k (yQ _)) q3] at q2';exact q2'}
   |false =>
    (have hnn:∀ j,y4 es j=some y.1->k<=j:=λj hj=>by grind [sM,mC,jF]);have hg:=hbef k (yQ _) y.1 hnn
    constructor;{rintro⟨o,q1,q2⟩;rw[uE (hnd k (yQ _)) q1] at hg;grind [xH]};grind [uE,xH]
  have hP0:PL (λi=>(Array.replicate ops.length false).getD i false) es=[]:=by
   (have:∀ m,m∉PL (λi=>(Array.replicate ops.length false).getD i false) es:=λm hm=>by obtain⟨e,_,q⟩:=fJ.1 hm;exact hnone e q);exact List.eq_nil_iff_forall_not_mem.2 this
  rw[hkt] at g3;refine TE (T0:=ps'.tmps) (T2:=T2) (O0:=ps'.objs) (O2:=y6 (scC (kZ es)) (Ob k)) (pvs:=pvs) (es:=es) (X:=λn=>(yK (Ob k) n).getD (.box [])) (Ob:=Ob) D hdst hk hkl (by rw[g1]) g3 g5 hfinO (by rw[gW];grind) hes hinj g6'
   (λi n x0 hi he' h0=>by rw[hbef i oM n (λj hj=>by grind)] at h0;exact xH h0) hX h1.obj.nd
   ops.length (Array.replicate ops.length false) (G:=ps'.tmps) (objs':=y6 (scC []) ps'.objs) (S:=S1) (β:=β1) (by simp) (λj _ _=>hnone j) (λi o _ hl=>absurd hl (hnone i)) (hunl _) ?_ ?_ ⟨λj o t pv _ hl=>absurd hl (hnone j),λt _=>rfl⟩
  {refine ((h1.go (fF h1.ld.bnd))).weak (λt v hr=>?_) (by grind [gW]) λn o' hm=>?_;{rw[hP0,kH];exact nM hr};{obtain⟨o1,q1,q2⟩:=(aH _).1 hm;simp only at q1 q2;exact⟨o1,q1,λh=>by rw[q2];exact DE h,λi h=>by rw[q2];exact HR h,λb hb=>by rw[q2] at hb;exact v4 hb⟩}};{intro y;rw[aH];unfold W6;rw[hP0];rfl}
 |br σ inv good ps' hw hsel hs hks =>
  obtain⟨S1,β1,h1⟩:=hw.sound h;have:=QC hsel hdst ops.length _ ps' hs (h1.go (fF h1.ld.bnd));rw[List.toArray_replicate] at this;refine Z6 (λe a w q=>?_) _ _ _ _ this;cases e with
  |normal=>obtain⟨ps2,S2,β2,⟨s,q0,q1⟩,q2⟩:=q;obtain⟨S3,β3,q3⟩:=q1.sound q2;grind
  |_=>exact q.elim
end
end Go.Proofs.YtboocdbmnfjomaaGreat
