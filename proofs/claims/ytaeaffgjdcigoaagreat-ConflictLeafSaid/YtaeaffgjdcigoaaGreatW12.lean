/- A part of the proof: PmP. -/
import Derived.Test.YtaeaffgjdcigoaaGreatW11
set_option linter.all false
namespace Go.Proofs.YtaeaffgjdcigoaaGreat
open Go
def nK (L:Nat->Prop) (o:Oper):Prop:=∀ e,e∈o.after.toList->Region.binds .any e=true->L e.on
theorem HT {acc:List Nat}{o:Oper}{j:Nat}(h:(eG acc o).testBit j=true):∃ e,e∈o.after.toList/\Region.binds .any e=true/\(e.on=j\/(acc.getD e.on 0).testBit j=true):=by
 unfold eG at h;have gen:∀ (l:List Edge) (s:Nat),(l.foldl (λs e=>if Region.binds .any e then s ||| (2^e.on ||| acc.getD e.on 0) else s) s).testBit j=true->s.testBit j=true\/∃ e,e∈l/\Region.binds .any e=true/\(e.on=j\/(acc.getD e.on 0).testBit j=true):=by
  intro l;induction l with
  |nil=>grind| cons e l ih =>
   intro s h;simp only[Ds] at h;rcases ih _ h with h1|⟨e',h1,h2⟩
   ·by_cases hb:Region.binds .any e=true
    all_goals grind
   grind
 grind
theorem An {L:Nat->Prop}{ops:List Oper}(hL:∀ i o,ops[i]?=some o->L i->nK L o):∀ (r done:List Oper) (acc:List Nat),ops=done++r->acc.length=done.length ->(∀ i o j,i<acc.length->ops[i]?=some o->nK L o->(acc.getD i 0).testBit j=true->L j) ->∀ i o j,ops[i]?=some o->nK L o->((Ao r acc).getD i 0).testBit j=true->L j
 |[],done,acc,he,hl,h,i,o,j,hi,hE,hb=>by refine h i o j ?_ hi hE hb;grind| x::r,done,acc,he,hl,h,i,o,j,hi,hE,hb=>by
  refine An hL r (done++[x]) (acc++[eG acc x]) (by simp[he]) (by simp[hl]) ?_ i o j hi hE hb;intro i o j hlt hi hE hb;by_cases h1:i<acc.length
  ·(have:(acc++[eG acc x]).getD i 0=acc.getD i 0:=by grind);grind
  ·(have h2:i=acc.length:=by grind);subst h2
   (have:(acc++[eG acc x]).getD acc.length 0=eG acc x:=by simp);rw[this] at hb
   (have hx:ops[acc.length]?=some x:=by grind);rw[hx] at hi
   (cases hi;obtain⟨e,h3,h4,h5⟩:=HT hb;have hLe:=hE e h3 h4;rcases h5 with h5|h5);{grind}
   ·by_cases h6:e.on<acc.length
    ·(have hlo:e.on<ops.length:=by grind);have ho:ops[e.on]?=some ops[e.on]:=gC hlo
     grind
    ·(have:acc.getD e.on 0=0:=by simp only[gE];grind);grind
theorem vX {L:Nat->Prop}{ops:List Oper}(hL:∀ i o,ops[i]?=some o->L i->nK L o){i j:Nat}{o:Oper}(hi:ops[i]?=some o)(hE:nK L o)(hb:((anc ops).getD i 0).testBit j=true):L j :=
 An hL ops [] [] rfl rfl (λi o j h=>by simp at h) i o j hi hE hb
def unl (L:Array Bool):Nat->Nat
 |0=>0| n+1=>unl L n+(if L.getD n true=true then 0 else 1)
theorem Xn {L:Array Bool}{i:Nat}:∀ {n:Nat},n<=i->unl (L.setIfInBounds i true) n=unl L n
 |0,_=>rfl| n+1,h=>by simp only[unl];rw[Xn oM,getD_set_ne true oM]
theorem UF {L:Array Bool}{i:Nat}(hi:L.getD i true=false):∀ {n:Nat},i<n->unl (L.setIfInBounds i true) n+1=unl L n
 |0,h=>by omega| n+1,h=>by
  simp only[unl];by_cases e:i=n
  ·(subst e;have hs:i<L.size:=by grind);rw[Xn (yD _),hi]
   simp_all
  {have:=UF hi (n:=n) oM;rw[getD_set_ne true e];omega}
theorem Xm {L:Array Bool}:∀ {n:Nat},unl L n=0->∀ i,i<n->L.getD i true=true
 |0,_,i,h=>by omega| n+1,h0,i,h=>by simp only[unl] at h0;by_cases e:i=n;{grind};{exact Xm (n:=n) oM i oM}
theorem jA {L:Array Bool}{i:Nat}(hi:i<L.size)(d e:Bool):L.getD i d=L.getD i e:=by simp[hi]
section
variable {w0:World} {S0:Nat->Nat->Prop} {K0:Nat->Prop} {N:Cx}
structure DrawOk (ops:List Oper) (k:Nat):Prop where
 dst:dD (ops.take k)=true
 look:∀ i o t j oj,i<k->j<k->ops[i]?=some o->ops[j]?=some oj->t∈kT ops o->oj.dst=some t->(j<i/\((anc ops).getD i 0).testBit j=true)\/(i<j/\((anc ops).getD j 0).testBit i=true)
 full:∀ i,i<k->∃ o,ops[i]?=some o
 back:∀ i o,ops[i]?=some o->∀ e,e∈o.after.toList->Region.binds .any e=true->e.on<i
 rest:∀ i j,i<ops.length->k<=i->j<i->((anc ops).getD i 0).testBit j=true
theorem YA {ops:List Oper}{k:Nat}(h:b9 ops k=true):DrawOk ops k:=by simp only[b9,yP,pA,Au] at h;obtain⟨⟨⟨h1,h2⟩,h3⟩,h4⟩:=h;refine⟨h1,?_,?_,?_,?_⟩;{intro i o t j oj hi hj ho hoj ht hd;have:=h2 i hi;simp only[ho,pA,Au] at this;have:=this t ht j hj;simp only[hoj,hd,BEq.rfl,Bool.not_true,r9,Va,yP,decide_eq_true_eq] at this;omega};{grind};{grind};grind
structure At (ops:List Oper) (k:Nat) (pvs:List PV) (τ0:Nat->PV) (L:Nat->Prop) (τ:Nat->PV):Prop where
 hit:∀ j o t pv,j<k->L j->ops[j]?=some o->pvs[j]?=some pv->o.dst=some t->τ t=pv
 miss:∀ t,(∀ j o,j<k->L j->ops[j]?=some o->o.dst≠some t)->τ t=τ0 t
theorem At.step {ops:List Oper}{k:Nat}{pvs:List PV}{τ0:Nat->PV}{L L':Nat->Prop}{τ:Nat->PV}(D:DrawOk ops k)(h:At ops k pvs τ0 L τ){i:Nat}{o:Oper}{pv:PV}(hi:i<k)(ho:ops[i]?=some o)(hp:pvs[i]?=some pv) (hL':∀ j,L' j↔L j\/j=i):At ops k pvs τ0 L' (upd τ o.dst pv):=by
 have hne:∀ j oj t,j<k->ops[j]?=some oj->oj.dst=some t->o.dst=some t->j=i:=λj oj t hj hoj hd hd' =>
  tA D.dst (by grind) (by grind) hd hd'
 refine⟨λj oj t pv' hj hLj hoj hpj hd=>?_,λt ht=>?_⟩
 ·by_cases hji:j=i;{subst hji;rw[ho] at hoj;cases hoj;rw[hp] at hpj;cases hpj;simp[upd,hd]}
  ·have hLj':=((hL' j).1 hLj).resolve_right hji;rw[<-h.hit j oj t pv' hj hLj' hoj hpj hd];cases hd':o.dst with
   |none=>rfl| some d =>
    grind [upd]
 ·have h1:τ t=τ0 t:=h.miss t λj oj hj hLj hoj=>ht j oj hj ((hL' j).2 (.inl hLj)) hoj;rw[<-h1];cases hd':o.dst with
  |none=>rfl| some d =>
   have:t≠d:=λe=>ht i o hi ((hL' i).2 (.inr rfl)) ho (by grind);grind [upd]
theorem At.text {ops:List Oper}{k:Nat}{pvs:List PV}{τ0:Nat->PV}(D:DrawOk ops k)(hl:pvs.length=(ops.take k).length)(i:Nat)(hi:i<=k):At ops k pvs τ0 (λj=>j<i) (aH ((ops.take k).take i) (pvs.take i) τ0):=by
 have htt:(ops.take k).take i=ops.take i:=by grind
 have hdo:dD (ops.take i)=true:=by rw[<-htt];exact Yz i D.dst
 refine⟨λj o t pv hj hLj ho hp hd=>?_,λt ht=>?_⟩;{rw[htt];exact Q6 hdo (by rw[bT hLj];exact ho) (by grind) hd};grind [Vz]
theorem At.same {ops:List Oper}{k:Nat}{pvs:List PV}{τ0:Nat->PV}{L L':Nat->Prop}{τ τ':Nat->PV}(D:DrawOk ops k)(hlen:k<=pvs.length)(h:At ops k pvs τ0 L τ)(h':At ops k pvs τ0 L' τ'){t:Nat}(ht:∀ j o,j<k->ops[j]?=some o->o.dst=some t->(L j/\L' j)\/(¬L j/\¬L' j)):τ t=τ' t:=by
 by_cases hx:∃ j o,j<k/\ops[j]?=some o/\o.dst=some t
 ·obtain⟨j,o,hj,ho,hd⟩:=hx;rcases ht j o hj ho hd with⟨h1,h2⟩|⟨h1,h2⟩;{have hp:pvs[j]?=some pvs[j]:=gC oM;rw[h.hit j o t _ hj h1 ho hp hd,h'.hit j o t _ hj h2 ho hp hd]}
  ·have key:∀ j' o',j'<k->ops[j']?=some o'->o'.dst=some t->j'=j:=λj' o' hj' ho' hd' =>
    tA D.dst (by grind) (by grind) hd' hd
   rw[h.miss t λj' o' hj' hL ho' hd'=>h1 (key j' o' hj' ho' hd' ▸ hL),h'.miss t λj' o' hj' hL ho' hd'=>h2 (key j' o' hj' ho' hd' ▸ hL)]
 {rw[h.miss t λj o hj _ ho hd=>hx ⟨j,o,hj,ho,hd⟩,h'.miss t λj o hj _ ho hd=>hx ⟨j,o,hj,ho,hd⟩]}
section
variable {a:Act} {w:World} {S:Nat->Nat->Prop} {β:Bm}
theorem Sim.newObjG {τ:Nat->PV}{objs:List (Nat×Obj')}{w':World}(h:Sim w0 S0 K0 N τ objs a w S β){n b:Nat}{o:Obj'}(hn:n<1000000)(hT:∀ t,xZ n (τ t)=true)(hO:∀ {m x},(m,x)∈objs->m≠n/\cY n x)(l:Leads w S u7 w' S)(hb:w.heap.size<=b)(hb':b<w'.heap.size) (hat:ObjAt w' S (fO β n (some b)) n o) (hr:∀ i,¬jQ o i:=by intro _ hi;exact hi):Sim w0 S0 K0 N τ (objs++[(n,o)]) a w' S (fO β n (some b)):=by
 have hmem:∀ {m x},(m,x)∈objs++[(n,o)]->((m,x)∈objs/\m≠n)\/(m=n/\x=o):=by grind
 have hg:=h.go l;refine⟨h.dfr,h.sz,hg.ld,λt=>(hg.tmp t).upd (hT t),⟨?_,?_,?_,?_⟩,?_,?_⟩;{rw[gP,W6];refine⟨h.obj.nd,by simp,?_⟩;grind};{intro m x hm;rcases hmem hm with⟨h1,h2⟩|⟨rfl,rfl⟩;{exact (hg.obj.at_ m x h1).upd h2 (hO h1).2};omega};{intro m x c hm hβ;rcases hmem hm with⟨h1,h2⟩|⟨rfl,rfl⟩;{exact hg.obj.un m x c h1 (vN h2 hβ)};{have hβ:=xC hr hβ;rw[xG] at hβ;cases hβ;exact⟨λi hS=>by have:=h.ld.bnd b i hS;omega,hb'⟩}};{intro m x m' x' c hm hm' hβ hβ';rcases hmem hm with⟨h1,h2⟩|⟨rfl,rfl⟩;{rcases hmem hm' with⟨h3,h4⟩|⟨rfl,rfl⟩;{exact hg.obj.inj _ _ _ _ c h1 h3 (vN h2 hβ) (vN h4 hβ')};{have hβ':=xC hr hβ';rw[xG] at hβ';cases hβ';have:=(h.obj.un m x b h1 (vN h2 hβ)).2;omega}};{rcases hmem hm' with⟨h3,h4⟩|⟨rfl,rfl⟩;{have hβ:=xC hr hβ;rw[xG] at hβ;cases hβ;have:=(h.obj.un m' x' b h3 (vN h4 hβ')).2;omega};{rfl}}};{intro m x c hm hβ;rcases hmem hm with⟨h1,h2⟩|⟨rfl,rfl⟩;{exact h.own m x c h1 (vN h2 hβ)};{have hβ:=xC hr hβ;rw[xG] at hβ;cases hβ;have:=h.ld.size;omega}};{intro m x hm hb2;rcases hmem hm with⟨h1,h2⟩|⟨rfl,rfl⟩;{rw[uD h2];exact h.keep m x h1 hb2};{omega}}
theorem Q0 {Q:List PV->Prop}{t:TypeId}(hno:(ty t).isNo=false)(h0:Q [])(hc:∀ v l,Q l->Q (wU v::l))(hn:Q [.nil]):Q (ty t).zero:=by
 cases hty:ty t with
 |no=>grind [Ty.isNo]| sc z=>obtain⟨_,_,zv',_,_,_,_,_,_,h7,_⟩:=Xp hty;rw[h7];exact hc _ _ h0
 |st n fs z =>
  obtain⟨_,_,zs,_,_,_,_,_,_,h7,_⟩:=Xo hty;rw[h7];simp only[Ty.zero];generalize zs.toList=l;induction l with
  |nil=>exact h0| cons x l ih=>exact hc _ _ ih
 |arr len n ag z =>
  obtain⟨_,_,zs,_,_,_,_,_,_,_,_,_,_,h7⟩:=iJ hty;rw[h7];simp only[Ty.zero];generalize zs.toList=l;induction l with
  |nil=>exact h0| cons x l ih=>exact hc _ _ ih
 |sli n b z=>exact hn
theorem Vx {d:Nat}{t:TypeId}(hno:(ty t).isNo=false):wN d (ty t).zero=true :=
 Q0 (Q:=λl=>wN d l=true) hno rfl (λv l ih=>by simp only[wN,yT,yP];exact⟨by unfold wU;split <;> rfl,ih⟩) rfl
theorem NV {o:Oper}{d:Nat}{x:Obj'}{τ:Nat->PV}{objs:List (Nat×Obj')}{Km:Act->World->Prop}{Q:Exit->Act->World->Prop}(hm:uB o=some (d,x))(hd:nB N o=true)(h:Sim w0 S0 K0 N τ objs a w S β) (hn:d<1000000) (hT:∀ t,xZ d (τ t)=true) (hO:∀ {m y},(m,y)∈objs->m≠d/\cY d y) (hk:∀ a' w' β',Sim w0 S0 K0 N (upd τ o.dst (.ptr d 0)) (objs++[(d,x)]) a' w' S β'->Km a' w'):o.wp Pg a w Km Q:=by
 obtain⟨hg,hod,t,hop,hno,rfl⟩:=s6 hm;obtain⟨i,zv,h1,h2,h3⟩:=H4 (w:=w) (S:=S) (β:=β) hno;have hz:wN d (ty t).zero=true:=Vx hno;have l:=qI (w:=w) h.ld.bnd (.cells zv.cells t);have hnw:=h.newObjG (w':=w.alloc (.cells zv.cells t)) (b:=w.heap.size) (o:=.box (ty t).zero) hn hT hO l (yD _) (by simp) ⟨w.heap.size,zv.cells,t,xG,heap_alloc_new w _,h3.1,λj hj =>
  ((h3.2 j hj).evo (l.evo h.ld.bnd) (l.subs h.ld.bnd)).upd (xV rfl hz j)⟩
 refine jC (v:=.pointer (some ⟨w.heap.size,0,none⟩)) (w':=w.alloc (.cells zv.cells t)) ?_ ?_;{simp[execOp,hop,Instr.alloc,pO h1 h2,newVar,newRow]};{exact hk _ _ _ (hnw.put o.dst (nA hd) (.ptr xG))}
theorem Sim.perm {τ:Nat->PV}{objs objs':List (Nat×Obj')}(h:Sim w0 S0 K0 N τ objs a w S β)(hm:∀ x,x∈objs'↔x∈objs)(hnd:(objs'.map Prod.fst).Nodup):Sim w0 S0 K0 N τ objs' a w S β :=
 ⟨h.dfr,h.sz,h.ld,h.tmp,⟨hnd,λn o hx=>h.obj.at_ n o ((hm _).1 hx),λn o b hx=>h.obj.un n o b ((hm _).1 hx),λn o m o' b hx hy=>h.obj.inj n o m o' b ((hm _).1 hx) ((hm _).1 hy)⟩,
  λn o b hx=>h.own n o b ((hm _).1 hx),λn o hx=>h.keep n o ((hm _).1 hx)⟩
theorem uI:∀ {l:List (Nat×Obj')} {n:Nat} {o:Obj'},(l.map Prod.fst).Nodup->(n,o)∈l->yN l n=some o
 |[],n,o,_,h=>by simp at h| (u,v)::r,n,o,hnd,h=>by simp only[jH,Zz] at hnd;simp only[yG] at h;unfold yN;rcases h with h|h;{simp_all};{have:u≠n:=λe=>hnd.1 (by grind);rw[Ht this];exact uI hnd.2 h}
end
theorem Xu {o:Oper}{τ:Nat->PV}{objs:List (Nat×Obj')}{a:Act}{w:World}{S:Nat->Nat->Prop}{β:Bm}{K:PV->Prop}{Km:Act->World->Prop}{Q:Exit->Act->World->Prop}(h:Sim w0 S0 K0 N τ objs a w S β)(hs:bU false objs o.op (ev τ) K) (hk:∀ pv w' S' v,K pv->Leads w S u7 w' S'->Rep w' S' β v pv->Km (a.put o.dst v) w'):o.wp Pg a w Km Q:=by
 unfold bU at hs;cases hi:Yx o.op with
 |false=>grind [ZG]| true =>
  rw[hi] at hs;obtain⟨c',hc1,hc2⟩:=KU hi;obtain⟨c,b,x,t,tx,n,bb,z,hop,h1,h2,h3,h4,h5,h6⟩:=QS hs;grind [QP]
theorem Kf {nb:Bool}{o:Oper}{τ:Nat->PV}{objs:List (Nat×Obj')}{a:Act}{w:World}{S:Nat->Nat->Prop}{β:Bm}{K:PV->Prop}{Km:Act->World->Prop}{Q:Exit->Act->World->Prop}(h:Sim w0 S0 K0 N τ objs a w S β)(hs:bU nb objs o.op (ev τ) K) (hk:∀ pv w' S' β' v,K pv->Sim w0 S0 K0 N τ objs a w' S' β'->Rep w' S' β' v pv->Km (a.put o.dst v) w'):o.wp Pg a w Km Q:=by
 have fin:bU false objs o.op (ev τ) K->o.wp Pg a w Km Q:=λhs=>Xu h hs λpv w' S' v hK l hr=>hk pv w' S' β v hK (h.go l) hr;cases nb with
 |false=>grind| true =>
  cases hi:Yx o.op with
  |true=>grind [bU]| false =>
   (have hs':oB objs o.op (ev τ) K:=by grind [bU]);rcases nS hs' with⟨h1,h2⟩|⟨c,f,g,caps,h1,h2,h3,h4,h5⟩
   {grind [bU]};{rcases h5.h with⟨args',r,q1,q2,q3,q4⟩|⟨_,hn,cargs,kept,r,q1,q2,q3,q4,q5,q6,q7,q8,q9,q10⟩;{exact nF h1 h2 h h4 ⟨args',r,q1,q2,q3,q4⟩ λpv w' S' v hK l hr=>hk pv w' S' β v hK (h.go l) hr};grind [Jp]}
theorem nN {ops:List Oper}{Q:Exit->Act->World->Prop}{i:Nat}{o:Oper}{a:Act}{w:World}{Km:Act->World->Prop}(ho:ops[i]?=some o) (h:(Region.wanted o (yielded ops.toArray a.tmps)=true/\o.wp Pg a w Km Q)\/(Region.wanted o (yielded ops.toArray a.tmps)=false/\Km (a.put o.dst undef) w)):wpOp Pg ops.toArray Q i Km a w:=by unfold wpOp;grind
def Lst (L:Array Bool) (j:Nat):Prop:=L.getD j false=true
theorem dI {L:Array Bool}{i:Nat}(hi:i<L.size)(j:Nat):Lst (L.setIfInBounds i true) j↔Lst L j\/j=i:=by unfold Lst;by_cases e:j=i;{simp_all};{rw[getD_set_ne false (Ne.symm e)];simp[e]}
theorem Fc {ops:List Oper}{k:Nat}(D:DrawOk ops k){Q:Exit->Act->World->Prop}{K:PS->Prop}(hdst:∀ o,o∈ops->nB N o=true)(hk:∀ ps' a' w' S' β',K ps'->Sim w0 S0 K0 N (zE ps'.tmps) ps'.objs a' w' S' β'->Q .normal a' w'):∀ (fuel m:Nat) (L:Array Bool) {ps:PS} {a:Act} {w:World} {S:Nat->Nat->Prop} {β:Bm},k<=m->m<=ops.length->L.size=ops.length->(∀ j,j<ops.length->(Lst L j↔j<m))->ops.length<=m+fuel ->Sim w0 S0 K0 N (zE ps.tmps) ps.objs a w S β->jE ops (ops.drop m) ps K->wpAny Pg .any ops.toArray Q fuel L a w:=by
 intro fuel;induction fuel with
 |zero =>
  (intro m L ps a w S β hkm hm hsz hL hf h hs;have hme:m=ops.length:=by omega);have hr:Region.ready .any ops.toArray L=[]:=by
   (rw[List.eq_nil_iff_forall_not_mem];intro i hi;obtain⟨h1,o,h2,_⟩:=mem_ready.1 hi;have hlt:i<ops.length:=by grind);have:=(hL i hlt).2 oM
   unfold Lst at this;grind
  refine⟨hr,?_⟩;rw[hme,vE] at hs;exact hk _ _ _ _ _ hs h
 |succ fuel ih =>
  (intro m L ps a w S β hkm hm hsz hL hf h hs;have closed:∀ i o,ops[i]?=some o->Lst L i->nK (Lst L) o:=by intro i o ho hi e he hb;have hlt:=(wE.1 ho).1;have h1:=D.back i o ho e he hb;grind);refine⟨λhr=>?_,λi hi=>?_⟩
  ·by_cases hme:m=ops.length;{rw[hme,vE] at hs;exact hk _ _ _ _ _ hs h}
   ·(exfalso;have hlt:m<ops.length:=by omega);have hin:m∈Region.ready .any ops.toArray L:=by
     refine mem_ready.2 ⟨?_,ops[m],by grind,λe he hb=>?_⟩
     ·rw[jA oM true false];cases hx:L.getD m false with
      |false=>rfl| true=>have:=(hL m hlt).1 hx;omega
     {have h1:=D.back m _ (gC hlt) e (by grind) hb;exact (hL e.on oM).2 h1}
    grind
  ·(obtain⟨h1,o,h2,h3⟩:=mem_ready.1 hi;have ho:ops[i]?=some o:=by grind);have hlt:i<ops.length:=(wE.1 ho).1
   (have him:m<=i:=by rcases kV i m with h'|h';{have:=(hL i hlt).2 h';unfold Lst at this;grind};omega);have hie:i=m:=by rcases kV m i with h'|h';{have hb:=D.rest i m hlt oM h';have:=vX closed ho (λe he hb=>h3 e (by grind) hb) hb;grind};{omega}
   (subst hie;have hdrop:ops.drop i=o::ops.drop (i+1):=by grind [List.drop_eq_getElem_cons]);rw[hdrop] at hs
   (simp only[jE] at hs;have hL2:∀ j,j<ops.length->(Lst (L.setIfInBounds i true) j↔j<i+1):=by grind [dI]);have hdo:=nA (hdst o (z3 ho))
   refine nN ho ?_;rcases aT h.tmp hs with⟨hw,hA⟩|⟨hw,hB⟩;{exact .inl ⟨hw,sZ h hA hdo λps' a' w' S' β' hK hsim=>by obtain⟨ps'',hK',hsim'⟩:=Yr hsim hK;grind⟩};{exact .inr ⟨hw,ih (i+1) _ oM oM (by grind) hL2 oM (w7 h o.dst hdo (YR _ _ _)) hB⟩}
theorem Z4 {m n:Nat}{o:Obj'}:∀ {l:List (Nat×Obj')},yN (v8 l m) n=some o->n≠m/\yN l n=some o
 |[],h=>by grind [v8,yN]| (u,v)::r,h=>by
  unfold v8 at h;cases hu:nqb u m with
  |true =>
   rw[hu] at h;obtain⟨h1,h2⟩:=Z4 h;grind [yN,nqb]
  |false =>
   rw[hu] at h;unfold yN at h ⊢;cases hx:nqb u n with
   |true =>
    grind
   |false =>
    rw[hx] at h;exact Z4 h
theorem Qr {m n:Nat}{o x:Obj'}(hne:m≠n):∀ {l:List (Nat×Obj')},yN l n=some o->yN (setO l m x) n=some o
 |[],h=>by grind [yN]| (u,v)::r,h=>by
  unfold setO;cases hu:nqb u m with
  |true =>
   grind [yN,nqb]
  |false =>
   unfold yN at h ⊢;show (match nqb u n with|true=>some v|false=>yN (setO r m x) n)=some o;cases hx:nqb u n with
   |true=>grind| false=>rw[hx] at h;exact Qr hne h
theorem iD:∀ {l:List Oper} {x:Nat×Obj'},x∈yI l↔∃ (i:Nat) (o:Oper),l[i]?=some o/\uB o=some x
 |[],x=>by simp[yI]| o::r,x=>by have ih:=@iD r x;unfold yI;constructor;{intro h;split at h;{rename_i y hy;rcases yG.1 h with h|h;{exact⟨0,o,rfl,by grind⟩};{obtain⟨i,o',q1,q2⟩:=ih.1 h;exact⟨i+1,o',by grind,q2⟩}};{obtain⟨i,o',q1,q2⟩:=ih.1 h;exact⟨i+1,o',by grind,q2⟩}};grind
theorem Qg {ops:List Oper}{k:Nat}{x:Nat×Obj'}:x∈yI (ops.take k)↔∃ i o,i<k/\ops[i]?=some o/\uB o=some x:=by rw[iD];constructor;{grind};{rintro⟨i,o,q0,q1,q2⟩;exact⟨i,o,by grind,q2⟩}
theorem X4 {ps:PS}:∀ {l:List (Nat×Obj')} {n:Nat} {o:Obj'},Vn ps l=true->(n,o)∈l->yQ n ps=true
 |[],n,o,_,h=>by simp at h| (m,x)::r,n,o,hm,h=>by simp only[Vn,yP] at hm;rcases yG.1 h with h|h;{grind};{exact X4 hm.2 h}
theorem VY {T:List (Nat×PV)}:∀ {l:List (Nat×Obj')} {n:Nat} {o:Obj'},KG T l=true->(n,o)∈l->mfT n T=true
 |[],n,o,_,h=>by simp at h| (m,x)::r,n,o,hm,h=>by simp only[KG,yP] at hm;rcases yG.1 h with h|h;{grind};{exact VY hm.2 h}
theorem KH {n t:Nat}(ht:t≠n):∀ {T:List (Nat×PV)},mfT n T=true->xZ n (zE T t)=true
 |[],_=>rfl| (u,v)::r,h=>by
  simp only[mfT,yP] at h;unfold zE;cases hu:nqb u t with
  |true =>
   grind [y5]
  |false=>exact KH ht h.2
theorem V8:∀ l:List PV,w5 (λv=>v) l=l
 |[]=>rfl| v::r=>by unfold w5;rw[V8 r]
theorem V4:∀ l:List (Nat×PV),vZ (λv=>v) l=l
 |[]=>rfl| (t,v)::r=>by unfold vZ;rw[V4 r]
theorem V6:∀ l:List (PV×(Unit->Nat)),s7 (λv=>v) l=l
 |[]=>rfl| (v,k)::r=>by unfold s7;rw[V6 r]
theorem Hu (o:Obj'):wC (λv=>v) o=o:=by
 cases o with
 |box cs=>simp only[wC,V8]| mat s r q=>simp only[wC,V6]| _=>rfl
theorem V5:∀ l:List (Nat×Obj'),xL (λv=>v) l=l
 |[]=>rfl| (n,o)::r=>by
  (have e:xL (λv=>v) ((n,o)::r)=(n,wC (λv=>v) o)::xL (λv=>v) r:=by cases o <;> rfl);rw[e,V5 r,Hu]
theorem Ug {n:Nat}{o:Obj'}:∀ (M:List Nat) {l:List (Nat×Obj')},yN (gI M l) n=some o->yH n M=false/\yN l n=some o
 |[],l,h=>⟨rfl,h⟩| m::r,l,h=>by unfold gI at h;obtain⟨h1,h2⟩:=Ug r h;grind [Z4,yH,y5]
theorem aO:∀ {l:List (Nat×Obj')} {n:Nat} {x:Obj'},n∈l.map Prod.fst->(n,x)∈setO l n x
 |(u,v)::r,n,x,hn=>by
  unfold setO;cases hu:nqb u n with
  |true=>grind| false =>
   (have hne:u≠n:=λe=>by simp_all);have hn':n∈r.map Prod.fst:=by grind
   exact wJ _ (aO hn')
 |[],n,x,hn=>by grind
theorem oZ:∀ {l:List (Nat×Obj')} {n m:Nat} {x o:Obj'},m≠n->(m,o)∈l->(m,o)∈setO l n x
 |(u,v)::r,n,m,x,o,hne,h=>by
  unfold setO;cases hu:nqb u n with
  |true =>
   simp_all
  |false =>
   rcases yG.1 h with h|h;{grind};{exact wJ _ (oZ hne h)}
 |[],n,m,x,o,hne,h=>by simp at h
theorem o4 {l:List (Nat×Obj')}{n m:Nat}{x o:Obj'}(hnd:(l.map Prod.fst).Nodup)(hn:n∈l.map Prod.fst):(m,o)∈setO l n x↔(m=n/\o=x)\/(m≠n/\(m,o)∈l) :=
 ⟨x6 hnd hn,λh=>by rcases h with⟨rfl,rfl⟩|⟨h1,h2⟩;{exact aO hn};grind [oZ]⟩
theorem gV:∀ (l r:List Oper),yI (l++r)=yI l++yI r
 |[],r=>rfl| o::l,r=>by
  simp only[Vv,yI];cases uB o with
  |none=>exact gV l r| some x=>simp only[Vv,gV l r]
theorem kZ:∀ {es:List (Nat×Nat)} {i n:Nat},yR es i=some n->(i,n)∈es
 |(a,b)::r,i,n,h=>by
  unfold yR at h;cases ha:nqb a i with
  |true =>
   simp_all
  |false=>rw[ha] at h;exact wJ _ (kZ h)
 |[],i,n,h=>by grind [yR]
theorem s5:∀ {l:List Nat} {n:Nat},n∈l->yH n l=true
 |m::r,n,h=>by unfold yH;rcases yG.1 h with rfl|h;{simp};{rw[s5 h];simp}
 |[],n,h=>by simp at h
theorem Xv:∀ {es:List (Nat×Nat)} {i n:Nat},(i,n)∈es->n∈qY es
 |(a,b)::r,i,n,h=>by unfold qY;rcases yG.1 h with h|h;{grind};{exact wJ _ (Xv h)}
 |[],i,n,h=>by simp at h
theorem ZV:∀ {es:List (Nat×Nat)} {i j n:Nat},KC (qY es)=true->yR es i=some n->yR es j=some n->i=j
 |(a,b)::r,i,j,n,hd,h1,h2=>by
  (unfold qY KC at hd;simp only[yP,YF] at hd;unfold yR at h1 h2;have bad:∀ {x},yR r x=some b->False:=λh=>by rw[s5 (Xv (kZ h))] at hd;grind);cases ha:nqb a i with
  |true =>
   grind [y5]
  |false =>
   rw[ha] at h1;cases hb:nqb a j with
   |true=>grind| false=>rw[hb] at h2;exact ZV hd.2 h1 h2
 |[],i,j,n,_,h1,_=>by grind [yR]
theorem X3:∀ {ms:List (Nat×Obj')} {cs:List PV},Qe ms cs=true->∀ d y,(d,y)∈ms->wN d cs=true
 |(a,b)::r,cs,h,d,y,hm=>by unfold Qe at h;simp only[yP] at h;rcases yG.1 hm with hm|hm;{grind};{exact X3 h.2 d y hm}
 |[],cs,h,d,y,hm=>by grind
theorem o7 {ops:List Oper}{o:Oper}{T:List (Nat×PV)}{τ:Nat->PV}(hg:o.guard=none)(h:∀ t,t∈kT ops o->zE T t=τ t):∀ x,x∈o.op.operands.toList->ev (zE T) x=ev τ x:=λx hx=>by
 cases x with
 |tmp t =>
  show zE T t=τ t;refine h t ?_;unfold kT;grind
 |_=>rfl
inductive EfStep (ops:List Oper) (es:List (Nat×Nat)) (ms lim:List (Nat×Obj')) (i:Nat) (o:Oper) (τ:Nat->PV) (pv:PV) (O O':List (Nat×Obj')):Prop
 |mk {d x} (h:uB o=some (d,x)) (hp:pv=.ptr d 0) (hO:O'=O++[(d,x)])
 |eff {n x x0} (hm:uB o=none) (he:yR es i=some n) (h0:yN O n=some x0) (hfree:∀ d y,(d,y)∈ms->cY d x) (hg:o.guard=none)
   (hgo:∀ (T':List (Nat×PV)) (O1:List (Nat×Obj')),(∀ t,t∈kT ops o->zE T' t=τ t)->yN O1 n=some x0->pY o ⟨T',O1⟩ (λp=>zE p.tmps=upd (zE T') o.dst pv/\p.objs=setO O1 n x)) (hO:O'=setO O n x)
 |pure (hm:uB o=none) (he:yR es i=none) (h:pM true lim ops o τ pv) (hO:O'=O)
theorem Ro {ops:List Oper}{ms:List (Nat×Obj')}{o:Oper}{n:Nat}{T:List (Nat×PV)}{O:List (Nat×Obj')}{K:PV->Obj'->Prop}(h:Mu ms o n T O K):∃ pv x x0,K pv x/\yN O n=some x0/\(∀ d y,(d,y)∈ms->cY d x)/\o.guard=none /\ ∀ (T':List (Nat×PV)) (O1:List (Nat×Obj')),(∀ t,t∈kT ops o->zE T' t=zE T t)->yN O1 n=some x0->pY o ⟨T',O1⟩ (λp=>zE p.tmps=upd (zE T') o.dst pv/\p.objs=setO O1 n x):=by
 unfold Mu at h;cases hg:o.guard with
 |some g=>grind| none =>
 rw[hg] at h;simp only at h;cases hop:o.op with
 |store t a v =>
  rw[hop] at h;simp only at h;cases hd:o.dst with
  |some d=>grind| none =>
   rw[hd] at h;simp only at h;cases hea:ev (zE T) a with
   |ptr m off =>
    rw[hea] at h;simp only at h;cases hmn:nqb m n with
    |false=>grind| true =>
     rw[hmn] at h;simp only at h;have:=y5 hmn;subst this;cases hgo:yN O m with
     |none=>grind| some x0 =>
      rw[hgo] at h;cases x0 with
      |arr s e=>grind| log s e=>grind| lent s e=>grind| mat s r q=>grind| mp t k=>grind| box cs =>
       simp only at h;split at h;{rename_i hc;simp only[yP] at hc;refine⟨_,_,_,h,rfl,λd y hy=>X3 hc.2 d y hy,rfl,λT' O1 hT hO=>?_⟩;have hev:=o7 hg hT;have e1:ev (zE T') a=.ptr m off:=(hev a (by grind [Op.operands])).trans hea;have e2:ev (zE T') v=ev (zE T) v:=hev v (by grind [Op.operands]);have hc':=hc.1;unfold pY;simp only[hop,e1,e2,hO];rw[show (nqb (yS (ev (zE T) v)).length (ty t).cells&&nle (off+(ty t).cells) cs.length&&nlt 0 (ty t).cells&&yT t9 (yS (ev (zE T) v)))=true by grind];simp only[hd,put];refine⟨?_,?_⟩ <;> first|rfl|trivial};grind
   |_=>rw[hea] at h;exact h.elim
 |call c =>
  rw[hop] at h;simp only at h;cases hcl:c.callee with
  |value g =>
   rw[hcl] at h;simp only at h;obtain⟨f,caps,hn,cargs,m,x,r,x',E1,E2,E3,E4,E5,E6,E7,E8,E9,E10,E11⟩:=h.h;refine⟨_,_,_,E11,E5,λd y _=>?_,rfl,λT' O1 hT hO=>?_⟩
   ·cases x' with
    |box cs=>exact VE d E7| arr s e=>trivial| log s e=>trivial| lent s e=>trivial| mp t k=>trivial| mat s r q =>
     cases q with
     |nil=>rfl| cons x y=>cases E7
   {have hev:=o7 hg hT;have hargs:∀ x,x∈c.args.toList->ev (zE T') x=ev (zE T) x:=λx hx=>hev x (by grind [Op.operands,Call.operands]);have hf:ev (zE T') g=ev (zE T) g:=hev g (by grind [Op.operands,Call.operands]);subst E4;unfold pY;simp only[hop,hcl];refine⟨⟨T',O1⟩,.refl _,f,caps,by grind,.inr ⟨hn,cargs,[(m,x)],[],r,[(m,x')],[],?_,E3,⟨⟨by grind [WL],YC E6⟩,trivial⟩,rfl,rfl,?_,rfl,rfl,E8,E9,E10,?_,?_⟩⟩;{grind [p9]};{show ((bF x'&&Hr [m] x')&&true)=true;grind [YC,Dg]};{rw[wV];show upd (zE (vZ (λv=>v) T')) o.dst _=_;rw[V4]};{rw[fY];show setO (xL (λv=>v) O1) (hn m) (wC (ren hn) x')++[]=_;rw[V5,jV,WL E7]}}
  |_=>grind
 |_=>rw[hop] at h;exact h.elim
theorem BV {ops:List Oper}{es:List (Nat×Nat)}{ms lim:List (Nat×Obj')}{K:List (Nat×PV)->List (Nat×Obj')->Prop}:∀ (l:List Oper) (i:Nat) {T:List (Nat×PV)} {O:List (Nat×Obj')},Zl ops es ms lim l i T O K ->∃ (pvs:List PV) (Ob:Nat->List (Nat×Obj')) (T':List (Nat×PV)),pvs.length=l.length/\Ob 0=O/\K T' (Ob l.length)/\zE T'=aH l pvs (zE T) /\ ∀ j o pv,l[j]?=some o->pvs[j]?=some pv->EfStep ops es ms lim (i+j) o (aH (l.take j) (pvs.take j) (zE T)) pv (Ob j) (Ob (j+1))
 |[],i,T,O,h=>⟨[],λ_=>O,T,rfl,rfl,h,rfl,λj o pv h=>by simp at h⟩| o::r,i,T,O,h=>by
  obtain⟨pv,O1,T1,h1,ht1,hst⟩:∃ pv O1 T1,Zl ops es ms lim r (i+1) T1 O1 K/\zE T1=upd (zE T) o.dst pv/\EfStep ops es ms lim i o (zE T) pv O O1:=by
   unfold Zl at h;cases hm:uB o with
   |some dx =>
    obtain⟨d,x⟩:=dx;rw[hm] at h;simp only at h;obtain⟨_,hd,_⟩:=s6 hm;exact⟨.ptr d 0,_,_,h,by rw[hd];funext t;simp[upd,gL],.mk hm rfl rfl⟩
   |none =>
    rw[hm] at h;simp only at h;cases he:yR es i with
    |some n =>
     rw[he] at h;simp only at h;obtain⟨pv,x,x0,h1,h2,h3,h4,h5⟩:=Ro (ops:=ops) h;exact⟨pv,_,_,h1,wV _ _ _,.eff hm he h2 h3 h4 h5 rfl⟩
    |none =>
     rw[he] at h;simp only at h;rcases Kc h with⟨pv,q1,q2⟩|⟨q1,q2⟩;{obtain⟨pv',p,g1,g2,g3,g4⟩:=Ky q1;exact⟨pv',O,p.tmps,g2,g4,.pure hm he (q2 pv' g1) rfl⟩};{exact⟨.tup [],O,_,q1,wV _ _ _,.pure hm he q2 rfl⟩}
  obtain⟨pvs,Ob,T',g1,g2,g3,g4,g5⟩:=BV r (i+1) h1;refine⟨pv::pvs,λj=>match j with|0=>O|j+1=>Ob j,T',by simp[g1],rfl,by omega,by rw[g4,ht1];rfl,λj o' pv' hj hp=>?_⟩;cases j with
  |zero =>
   simp only[Zx,mF] at hj hp;subst hj hp;show EfStep ops es ms lim i o _ pv O (Ob 0);rw[g2];exact hst
  |succ j =>
   simp only[Zw] at hj hp;have:=g5 j o' pv' hj hp;rw[ht1] at this;rw[show i+(j+1)=i+1+j by omega];exact this
def EMem (ops:List Oper) (es:List (Nat×Nat)) (k:Nat) (O0:List (Nat×Obj')) (X:Nat->Obj') (L:Nat->Prop) (y:Nat×Obj'):Prop :=
 ((y∈O0\/∃ j oj,j<k/\L j/\ops[j]?=some oj/\uB oj=some y)/\¬∃ i,i<k/\yR es i=some y.1/\L i)\/(∃ i,i<k/\yR es i=some y.1/\L i/\X i=y.2)
section
variable {ops:List Oper} {es:List (Nat×Nat)} {k:Nat} {O0:List (Nat×Obj')} {X:Nat->Obj'} {L L':Nat->Prop}
theorem EMem.pure {i:Nat}{o:Oper}(ho:ops[i]?=some o)(hm:uB o=none)(he:yR es i=none)(hL':∀ j,L' j↔L j\/j=i)(y:Nat×Obj'):EMem ops es k O0 X L' y↔EMem ops es k O0 X L y:=by
 have h1:(∃ j oj,j<k/\L' j/\ops[j]?=some oj/\uB oj=some y)↔∃ j oj,j<k/\L j/\ops[j]?=some oj/\uB oj=some y:=by grind
 have h2:∀ P:Nat->Prop,(∃ j,j<k/\yR es j=some y.1/\L' j/\P j)↔∃ j,j<k/\yR es j=some y.1/\L j/\P j:=by grind
 have h3:(∃ i,i<k/\yR es i=some y.1/\L' i)↔∃ i,i<k/\yR es i=some y.1/\L i:=by grind
 unfold EMem;simp_all
theorem EMem.mk {i:Nat}{o:Oper}{d:Nat}{x:Obj'}(ho:ops[i]?=some o)(hik:i<k)(hm:uB o=some (d,x))(he:yR es i=none)(hno:∀ j,j<k->yR es j=some d->¬L j)(hL':∀ j,L' j↔L j\/j=i)(y:Nat×Obj'):EMem ops es k O0 X L' y↔EMem ops es k O0 X L y\/y=(d,x):=by
 have h1:(∃ j oj,j<k/\L' j/\ops[j]?=some oj/\uB oj=some y)↔(∃ j oj,j<k/\L j/\ops[j]?=some oj/\uB oj=some y)\/y=(d,x):=by grind
 have h2:∀ P:Nat->Prop,(∃ j,j<k/\yR es j=some y.1/\L' j/\P j)↔∃ j,j<k/\yR es j=some y.1/\L j/\P j:=by grind
 have h3:(∃ i,i<k/\yR es i=some y.1/\L' i)↔∃ i,i<k/\yR es i=some y.1/\L i:=by grind
 have h4:y=(d,x)->¬∃ i,i<k/\yR es i=some y.1/\L i:=by grind
 unfold EMem;rw[h1,h2,h3];constructor
 ·rintro (⟨q1|q1|q1,q2⟩|q);{grind};{grind}
  all_goals grind
 ·rintro ((⟨q1|q1,q2⟩|q)|q);{grind};{grind}
  all_goals grind
theorem EMem.eff {i:Nat}{o:Oper}{n:Nat}(hinj:∀ {i j n},yR es i=some n->yR es j=some n->i=j)(ho:ops[i]?=some o)(hik:i<k)(hm:uB o=none)(he:yR es i=some n)(hL':∀ j,L' j↔L j\/j=i)(y:Nat×Obj'):EMem ops es k O0 X L' y↔(y.1=n/\y.2=X i)\/(y.1≠n/\EMem ops es k O0 X L y):=by
 have h1:(∃ j oj,j<k/\L' j/\ops[j]?=some oj/\uB oj=some y)↔∃ j oj,j<k/\L j/\ops[j]?=some oj/\uB oj=some y:=by grind
 by_cases hy:y.1=n;{have h2:∀ j,yR es j=some y.1->j=i:=λj hj=>hinj (by grind) he;unfold EMem;grind}
 ·(have h2:∀ P:Nat->Prop,(∃ j,j<k/\yR es j=some y.1/\L' j/\P j)↔∃ j,j<k/\yR es j=some y.1/\L j/\P j:=by grind);have h3:(∃ i,i<k/\yR es i=some y.1/\L' i)↔∃ i,i<k/\yR es i=some y.1/\L i:=by grind
  unfold EMem;rw[h1,h2,h3];constructor;{intro q;exact .inr ⟨hy,q⟩}
  ·rintro (⟨q,_⟩|⟨_,q⟩)
   all_goals omega
end
theorem My {ops:List Oper}{k:Nat}(D:DrawOk ops k){Q:Exit->Act->World->Prop}{K:PS->Prop}(hdst:∀ o,o∈ops->nB N o=true)(hk:∀ ps' a' w' S' β',K ps'->Sim w0 S0 K0 N (zE ps'.tmps) ps'.objs a' w' S' β'->Q .normal a' w') {T0 T2:List (Nat×PV)} {O0 O2:List (Nat×Obj')} {pvs:List PV} {es:List (Nat×Nat)} {ms lim:List (Nat×Obj')} {X:Nat->Obj'} {Ob:Nat->List (Nat×Obj')} (hkl:k<=ops.length) (hlen:pvs.length=(ops.take k).length) (hK:jE ops (ops.drop k) ⟨T2,O2⟩ K) (ht2:zE T2=aH (ops.take k) pvs (zE T0)) (hO2:∀ y,y∈O2↔EMem ops es k O0 X (λj=>j<k) y) (hnd2:(O2.map Prod.fst).Nodup) (hms:∀ x,x∈ms↔∃ i o,i<k/\ops[i]?=some o/\uB o=some x) (hfr:∀ n x,(n,x)∈ms->n<1000000/\(∀ t,xZ n (zE T0 t)=true)/\(∀ m o,(m,o)∈O0->m≠n/\cY n o)/\(∀ t,t≠n->xZ n (zE T2 t)=true)) (hlim:∀ n o,yN lim n=some o->(n,o)∈O0/\∀ i,yR es i≠some n) (hinj:∀ {i j n},yR es i=some n->yR es j=some n->i=j) (hmkE:∀ i o x,ops[i]?=some o->uB o=some x->yR es i=none) (hanc:∀ i n j oj x,i<k->yR es i=some n->j<k->ops[j]?=some oj->uB oj=some (n,x)->((anc ops).getD i 0).testBit j=true) (hOb:∀ i,i<k->∀ y,y∈Ob i↔EMem ops es k O0 X (λj=>j<i) y) (hst:∀ i o pv,(ops.take k)[i]?=some o->pvs[i]?=some pv->EfStep ops es ms lim i o (aH ((ops.take k).take i) (pvs.take i) (zE T0)) pv (Ob i) (Ob (i+1))) (hX:∀ i n x,i<k->yR es i=some n->(n,x)∈Ob (i+1)->X i=x) (hXin:∀ i n x0 x,yN (Ob i) n=some x0->(n,x)∈setO (Ob i) n x):∀ (fuel:Nat) (L:Array Bool) {a:Act} {w:World} {S:Nat->Nat->Prop} {β:Bm} {T:List (Nat×PV)} {objs':List (Nat×Obj')},L.size=ops.length->(∀ j,j<ops.length->k<=j->¬Lst L j)->(∀ i o,ops[i]?=some o->Lst L i->nK (Lst L) o)->unl L ops.length<=fuel ->Sim w0 S0 K0 N (zE T) objs' a w S β->(∀ y,y∈objs'↔EMem ops es k O0 X (Lst L) y)->At ops k pvs (zE T0) (Lst L) (zE T)->wpAny Pg .any ops.toArray Q fuel L a w:=by
 have hpl:k<=pvs.length:=by rw[hlen];simp;omega
 have htx:At ops k pvs (zE T0) (λj=>j<k) (zE T2):=by
  (have htx:=At.text (τ0:=zE T0) D hlen k (yD _);have e1:(ops.take k).take k=ops.take k:=by rw[List.take_take,Nat.min_self]);have e2:pvs.take k=pvs:=yU (by rw[hlen];simp;omega)
  grind
 have hend:∀ {T:List (Nat×PV)} {L:Array Bool},(∀ j,j<k->Lst L j)->At ops k pvs (zE T0) (Lst L) (zE T)->zE T=zE T2:=by intro T L hfull hat;funext t;exact hat.same D hpl htx λj o hj ho hd=>.inl ⟨hfull j hj,hj⟩
 have hEx:∀ {L:Array Bool},(∀ j,j<k->Lst L j)->∀ y,EMem ops es k O0 X (Lst L) y↔EMem ops es k O0 X (λj=>j<k) y:=by
  (intro L hfull y;have e1:∀ P:Nat->Prop,(∃ j,j<k/\yR es j=some y.1/\Lst L j/\P j)↔∃ j,j<k/\yR es j=some y.1/\j<k/\P j:=λP=>⟨λ⟨j,q1,q2,_,q4⟩=>⟨j,q1,q2,q1,q4⟩,λ⟨j,q1,q2,_,q4⟩=>⟨j,q1,q2,hfull j q1,q4⟩⟩;have e2:(∃ j oj,j<k/\Lst L j/\ops[j]?=some oj/\uB oj=some y)↔∃ j oj,j<k/\j<k/\ops[j]?=some oj/\uB oj=some y:=⟨λ⟨j,oj,q1,_,q3⟩=>⟨j,oj,q1,q1,q3⟩,λ⟨j,oj,q1,_,q3⟩=>⟨j,oj,q1,hfull j q1,q3⟩⟩;have e3:(∃ i,i<k/\yR es i=some y.1/\Lst L i)↔∃ i,i<k/\yR es i=some y.1/\i<k:=by simpa using e1 (λ_=>True));unfold EMem
  rw[e1,e2,e3]
 intro fuel;induction fuel with
 |zero =>
  (intro L a w S β T objs' hsz hge hcl hun h hin hat;have hall:=Xm (Nat.le_zero.1 hun);have hall':∀ j,j<ops.length->Lst L j:=λj hj=>by have h1:=hall j hj;rw[jA oM true false] at h1;exact h1);have hkn:ops.length<=k:=by rcases kV k ops.length with h'|h';{exact absurd (hall' k h') (hge k h' (yD _))};omega
  have hfull:∀ j,j<k->Lst L j:=λj hj=>hall' j oM;refine Fc D hdst hk 0 k L (ps:=⟨T2,O2⟩) (S:=S) (β:=β) (yD _) hkl hsz (λj hj=>⟨λ_=>by omega,λ_=>hall' j hj⟩) oM ?_ hK;show Sim w0 S0 K0 N (zE T2) O2 a w S β;rw[<-hend hfull hat];exact h.perm (λx=>by rw[hO2 x,hin x,hEx hfull x]) hnd2
 |succ fuel ih =>
  intro L a w S β T objs' hsz hge hcl hun h hin hat;by_cases hfull:∀ j,j<k->Lst L j
  ·refine Fc D hdst hk (fuel+1) k L (ps:=⟨T2,O2⟩) (S:=S) (β:=β) (yD _) hkl hsz (λj hj=>⟨λhl=>?_,λhj'=>hfull j hj'⟩) ?_ ?_ hK;{rcases kV j k with h'|h';{exact h'};{exact absurd hl (hge j hj h')}}
   ·have cnt:∀ n,k<=n->n<=ops.length->n<=k+unl L n:=by
     intro n;induction n with
     |zero=>omega| succ n ihn =>
      intro hkn hn;simp only[unl];by_cases hk0:k=n+1;{omega}
      ·(have:=ihn oM oM;have hnl:=hge n oM oM;have:L.getD n true≠true:=by rw[jA oM true false];exact hnl);rw[if_neg this]
       omega
    have:=cnt ops.length hkl (yD _);omega
   {show Sim w0 S0 K0 N (zE T2) O2 a w S β;rw[<-hend hfull hat];exact h.perm (λx=>by rw[hO2 x,hin x,hEx hfull x]) hnd2}
  ·have hun0:∃ j,j<k/\¬Lst L j/\∀ i,i<j->Lst L i:=by
    have:∀ n,n<=k->(∀ i,i<n->Lst L i)\/∃ j,j<k/\¬Lst L j/\∀ i,i<j->Lst L i:=by
     intro n;induction n with
     |zero=>intro _;exact .inl λi h=>by omega| succ n ihn =>
      intro hn;rcases ihn oM with h1|h1;{by_cases hx:Lst L n;{refine .inl λi hi=>?_;by_cases e:i=n;{exact e ▸ hx};{exact h1 i oM}};{exact .inr ⟨n,by omega,hx,h1⟩}};{exact .inr h1}
    rcases this k (yD _) with h1|h1;{exact absurd h1 hfull};omega
   obtain⟨j0,hj0,hnj0,hbelow⟩:=hun0;refine⟨λhr=>?_,λi hi=>?_⟩
   ·(exfalso;have hlt:j0<ops.length:=by omega);have hin:j0∈Region.ready .any ops.toArray L:=by
     refine mem_ready.2 ⟨?_,ops[j0],by simp[hlt],λe he hb=>?_⟩
     ·rw[jA oM true false];cases hx:L.getD j0 false with
      |false=>rfl| true=>exact absurd hx hnj0
     {exact hbelow e.on (D.back j0 _ (gC hlt) e (by simpa using he) hb)}
    rw[hr] at hin;cases hin
   ·(obtain⟨h1,o,h2,h3⟩:=mem_ready.1 hi;have ho:ops[i]?=some o:=by simpa using h2);have hlt:i<ops.length:=(wE.1 ho).1
    have hE:nK (Lst L) o:=λe he hb=>h3 e (by simpa using he) hb;have hik:i<k:=by rcases kV i k with h'|h';{exact h'};{exact absurd (vX hcl ho hE (D.rest i j0 hlt h' oM)) hnj0}
    (have hp:pvs[i]?=some pvs[i]:=gC oM;have hdo:=nA (hdst o (z3 ho));have hsize:i<L.size:=by omega);have hnl:¬Lst L i:=λhl=>by rw[jA oM true false] at h1;unfold Lst at hl;rw[h1] at hl;exact absurd hl (by decide)
    (have hagree:∀ t,t∈kT ops o->aH ((ops.take k).take i) (pvs.take i) (zE T0) t=zE T t:=λt ht=>At.same D hpl (At.text D hlen i oM) hat λj oj hj hoj hd=>by rcases D.look i o t j oj hik hj ho hoj ht hd with⟨q1,q2⟩|⟨q1,q2⟩;{exact .inl ⟨q1,vX hcl ho hE q2⟩};{refine .inr ⟨by omega,λhl=>?_⟩;have:=vX hcl hoj (hcl j oj hoj hl) q2;rw[jA oM true false] at h1;exact absurd this (by unfold Lst;rw[h1];decide)});have hLs:∀ j,Lst (L.setIfInBounds i true) j↔Lst L j\/j=i:=dI hsize;have hnext:∀ {a':Act} {w':World} {S':Nat->Nat->Prop} {β':Bm} {T':List (Nat×PV)} {objs3:List (Nat×Obj')},zE T'=upd (zE T) o.dst pvs[i]->Sim w0 S0 K0 N (zE T') objs3 a' w' S' β'->(∀ y,y∈objs3↔EMem ops es k O0 X (Lst (L.setIfInBounds i true)) y)->wpAny Pg .any ops.toArray Q fuel (L.setIfInBounds i true) a' w':=by intro a' w' S' β' T' objs3 hT hsim g1;refine ih (L.setIfInBounds i true) (by simpa using hsz) (λj hj hkj hl=>?_) (λj oj hoj hl=>?_) ?_ hsim g1 (by rw[hT];exact hat.step D hik ho hp λj=>dI hsize j);{rcases (dI hsize j).1 hl with hl|hl;{exact hge j hj hkj hl};{omega}};{intro e he hb;rw[dI hsize];rcases (dI hsize j).1 hl with hl|hl;{exact .inl (hcl j oj hoj hl e he hb)};{subst hl;rw[ho] at hoj;cases hoj;exact .inl (hE e he hb)}};{have:=UF h1 hlt;omega}
    cases hst i o pvs[i] (by rw[bT hik];exact ho) hp with
    | @mk d x hmk hpv hO =>
     obtain⟨hgn,hod,t0,hop0,hno0,hx0⟩:=s6 hmk;have hinms:(d,x)∈ms:=(hms _).2 ⟨i,o,hik,ho,hmk⟩;obtain⟨f1,f2,f3,f4⟩:=hfr d x hinms;have uniq:∀ j oj,j<k->ops[j]?=some oj->oj.dst=some d->j=i:=λj oj hj hoj hd' =>
      tA D.dst (by rw[bT hj];exact hoj) (by rw[bT hik];exact ho) hd' hod
     (have hnoE:∀ j,j<k->yR es j=some d->¬Lst L j:=λj hj hje hjl=>by have hjo:ops[j]?=some ops[j]:=gC oM;exact hnl (vX hcl hjo (hcl j _ hjo hjl) (hanc j d i o x hj hje hik ho hmk)));refine nN ho (.inl ⟨by simp[Region.wanted,hgn],NV hmk (hdst o (z3 ho)) h f1 (λt=>?_) (λ{m y} hmy=>?_) λa' w' β' hsim=>?_⟩)
     {by_cases hw:∃ j oj,j<k/\Lst L j/\ops[j]?=some oj/\oj.dst=some t;{obtain⟨j,oj,q1,q2,q3,q4⟩:=hw;have hpj:pvs[j]?=some pvs[j]:=gC oM;rw[hat.hit j oj t _ q1 q2 q3 hpj q4,<-htx.hit j oj t _ q1 q1 q3 hpj q4];refine f4 t λe=>?_;subst e;exact hnl (uniq j oj q1 q3 q4 ▸ q2)};{rw[hat.miss t λj oj q1 q2 q3 q4=>hw ⟨j,oj,q1,q2,q3,q4⟩];exact f2 t}}
     ·rcases (hin _).1 hmy with⟨q|⟨j,oj,q1,q2,q3,q4⟩,_⟩|⟨j,q1,q2,q3,q4⟩;{exact f3 m y q};{obtain⟨_,hodj,t1,_,hno1,hy1⟩:=s6 q4;refine⟨λe=>?_,?_⟩;{subst e;exact hnl (uniq j oj q1 q3 hodj ▸ q2)};{rw[hy1];exact Vx hno1}}
      ·refine⟨λe=>?_,?_⟩;{simp only at q2;rw[e] at q2;exact hnoE j q1 q2 q3}
       ·have hjo:ops[j]?=some ops[j]:=gC oM;have hpj:pvs[j]?=some pvs[j]:=gC oM;cases hst j ops[j] pvs[j] (by rw[bT q1];exact hjo) hpj with
        |mk hmk' _ _=>rw[hmkE j _ _ hjo hmk'] at q2;cases q2
        |pure _ he' _ _=>rw[he'] at q2;cases q2
        |eff hm' he' h0' hfree' hg' hgo' hO' =>
         rw[he'] at q2;cases q2;have:=hX j _ _ q1 he' (by rw[hO'];exact hXin _ _ _ _ h0');have q4':X j=y:=q4;rw[<-q4',this];exact hfree' d x hinms
     {have hT:zE (put ⟨T,[]⟩ o.dst pvs[i]).tmps=upd (zE T) o.dst pvs[i]:=wV _ _ _;rw[<-hpv,<-hT] at hsim;refine hnext hT hsim λy=>?_;rw[uX,kJ,EMem.mk ho hik hmk (hmkE i o _ ho hmk) hnoE hLs y,hin y]}
    | @eff n x x0 hm he h0 hfree hg hgo hO =>
     have hxX:X i=x:=hX i n x hik he (by rw[hO];exact hXin _ _ _ _ h0);have hne:∀ {y:Nat×Obj'} {M:Nat->Prop},y.1=n->¬M i->EMem ops es k O0 X M y->(y∈O0\/∃ j oj,j<k/\M j/\ops[j]?=some oj/\uB oj=some y):=λ{y M} hy hMi hE=>by rcases hE with⟨q,_⟩|⟨j,q1,q2,q3,q4⟩;{exact q};{rw[hy] at q2;have:=hinj q2 he;subst this;exact absurd q3 hMi}
     (have hx0:=hne (y:=(n,x0)) rfl oM ((hOb i hik _).1 (xU h0));have hnoL:¬∃ j,j<k/\yR es j=some n/\Lst L j:=λ⟨j,q1,q2,q3⟩=>hnl (hinj q2 he ▸ q3);have hin0:(n,x0)∈objs':=by rw[hin];refine .inl ⟨?_,hnoL⟩;rcases hx0 with q|⟨j,oj,q1,q2,q3,q4⟩;{exact .inl q};{exact .inr ⟨j,oj,q1,vX hcl ho hE (hanc i n j oj x0 hik he q1 q3 q4),q3,q4⟩});have hget:yN objs' n=some x0:=uI h.obj.nd hin0;have hs0:=hgo T objs' (λt ht=>(hagree t ht).symm) hget;have hnin:n∈objs'.map Prod.fst:=yZ.2 ⟨_,hin0,rfl⟩;refine nN ho (.inl ⟨by simp[Region.wanted,hg],sZ (ps:=⟨T,objs'⟩) h hs0 hdo λps' a' w' S' β' hK hsim=>?_⟩);obtain⟨hK1,hK2⟩:=hK;rw[hK2] at hsim;refine hnext hK1 hsim λy=>?_;obtain⟨y1,y2⟩:=y;rw[o4 h.obj.nd hnin,EMem.eff hinj ho hik hm he hLs,hin,hxX]
    |pure hm he hs1 hO =>
     have hgo:∀ n o,yN lim n=some o->yN objs' n=some o:=λn o hg=>by obtain⟨q1,q2⟩:=hlim n o hg;exact uI h.obj.nd ((hin _).2 (.inl ⟨.inl q1,λ⟨j,_,q3,_⟩=>q2 j q3⟩))
     (have hs2:pM true lim ops o (zE T) pvs[i]:=Yj hagree hs1;have hfin:∀ y,y∈objs'↔EMem ops es k O0 X (Lst (L.setIfInBounds i true)) y:=λy=>by rw[EMem.pure ho hm he hLs y,hin y]);refine nN ho ?_
     rcases aT h.tmp hs2 with⟨hw,hA⟩|⟨hw,hB⟩;{refine .inl ⟨hw,Kf h (FB hgo hA) λpv w' S' β' v hpv l hr=>?_⟩;refine hnext (S':=S') (β':=β') (T':=(put ⟨T,[]⟩ o.dst pvs[i]).tmps) (wV _ _ _) ?_ hfin;rw[wV];exact l.put o.dst hdo (hr.le _ hpv)};{refine .inr ⟨hw,hnext (S':=S) (β':=β) (T':=(put ⟨T,[]⟩ o.dst pvs[i]).tmps) (wV _ _ _) ?_ hfin⟩;rw[wV];refine h.put o.dst hdo ?_;rw[hB];exact YR _ _ _}
theorem oD {P:List Nat}{w:World}{S:Nat->Nat->Prop}{β:Bm}{v:Value}{pv:PV}(h:Rep w S β v pv):Rep w S β v (scA P pv):=by
 cases pv with
 |agg cs=>exact xX _| tup cs=>exact xX _| fn f cs=>exact xX _| ptr m off=>simp only[scA];cases yH m P <;> first|exact h|exact xX _
 |aptr m s i off=>simp only[scA];cases yH m P <;> first|exact h|exact xX _
 |osl m s i len=>simp only[scA];cases yH m P <;> first|exact h|exact xX _
 |mpv m=>simp only[scA];cases yH m P <;> first|exact h|exact xX _
 |_=>exact h
theorem UP {P:List Nat}{w:World}{S:Nat->Nat->Prop}{β:Bm}{v:Value}{pv:PV}(h:Rep w S β v pv):Rep w S β v (scB P pv):=by
 cases pv with
 |agg cs =>
  obtain⟨vs,rfl,h1,h2⟩:=qU h;exact .agg (by grind [zN]) λj hj=>by rw[zN] at hj;rw[yK _ rfl];grind [oD]
 |tup cs =>
  obtain⟨vs,rfl,h1,h2⟩:=fR h;exact .tup (by grind [zN]) λj hj=>by rw[zN] at hj;rw[yK _ rfl];grind [oD]
 |fn f cs =>
  obtain⟨vs,rfl,h1,h2⟩:=gX h;exact .fn (by grind [zN]) λj hj=>by rw[zN] at hj;rw[yK _ rfl];grind [oD]
 |_=>first|exact oD (P:=P) h|exact h
theorem nW {P:List Nat}{w:World}{S:Nat->Nat->Prop}{β:Bm}{v:Value}{pv:PV}(h:Rep w S β v pv):Rep w S β v (scC P pv):=by
 cases pv with
 |agg cs =>
  obtain⟨vs,rfl,h1,h2⟩:=qU h;exact .agg (by grind [zN]) λj hj=>by rw[zN] at hj;rw[yK _ rfl];grind [UP]
 |tup cs =>
  obtain⟨vs,rfl,h1,h2⟩:=fR h;exact .tup (by grind [zN]) λj hj=>by rw[zN] at hj;rw[yK _ rfl];grind [UP]
 |fn f cs =>
  obtain⟨vs,rfl,h1,h2⟩:=gX h;exact .fn (by grind [zN]) λj hj=>by rw[zN] at hj;rw[yK _ rfl];grind [UP]
 |_=>exact oD (P:=P) h
theorem sB (f g h:PV->PV)(H:∀ v,f (g v)=h v):∀ l:List PV,w5 f (w5 g l)=w5 h l
 |[]=>rfl| v::r=>by simp only[w5,H,sB f g h H r]
theorem tM (f g:PV->PV)(H:∀ v,f v=g v):∀ l:List PV,w5 f l=w5 g l
 |[]=>rfl| v::r=>by simp only[w5,H,tM f g H r]
theorem CT (m n:Nat):nqb m n=nqb n m:=by grind [nqb]
theorem XA {P P':List Nat}(H:∀ m,yH m P=true->yH m P'=true)(v:PV):scA P' (scA P v)=scA P' v:=by
 have key:∀ {m:Nat} {x:PV},(∀ y,scA P' y=scA P' y)->(yH m P'=true->scA P' x=.any)->scA P' (match yH m P with|true=>PV.any|false=>x)=scA P' x:=by
  intro m x _ hx;cases h:yH m P with
  |true=>rw[hx (H m h)];rfl
  |false=>rfl
 cases v with
 |ptr m off=>exact key (λ_=>rfl) (λh=>by simp only[scA,h])| aptr m s i off=>exact key (λ_=>rfl) (λh=>by simp only[scA,h])| osl m s i len=>exact key (λ_=>rfl) (λh=>by simp only[scA,h])| mpv m=>exact key (λ_=>rfl) (λh=>by simp only[scA,h])| _=>rfl
def mC:PV->Bool
 |.agg _=>true| .tup _=>true| .fn _ _=>true| _=>false
theorem J1 {P:List Nat}{v:PV}(h:mC v=false):scB P v=scA P v:=by cases v <;> first|rfl|cases h
theorem J0 {P:List Nat}{v:PV}(h:mC v=false):scC P v=scA P v:=by cases v <;> first|rfl|cases h
theorem J2 {n:Nat}{v:PV}(h:mC v=false):sc1 n v=sc0 n v:=by cases v <;> first|rfl|cases h
theorem JY {n:Nat}{v:PV}(h:mC v=false):scr n v=sc0 n v:=by cases v <;> first|rfl|cases h
theorem Cr {n:Nat}{v:PV}(h:mC v=false):rf1 n v=rf0 n v:=by cases v <;> first|rfl|cases h
theorem Cq {n:Nat}{v:PV}(h:mC v=false):xZ n v=rf0 n v:=by cases v <;> first|rfl|cases h
theorem Zp (P:List Nat)(v:PV):mC (scA P v)=false:=by
 cases v with
 |ptr m off=>simp only[scA];cases yH m P <;> rfl
 |aptr m s i off=>simp only[scA];cases yH m P <;> rfl
 |osl m s i len=>simp only[scA];cases yH m P <;> rfl
 |mpv m=>simp only[scA];cases yH m P <;> rfl
 |_=>rfl
theorem Jj (n:Nat)(v:PV):mC (sc0 n v)=false:=by
 cases v with
 |ptr m off=>simp only[sc0];cases nqb m n <;> rfl
 |aptr m s i off=>simp only[sc0];cases nqb m n <;> rfl
 |osl m s i len=>simp only[sc0];cases nqb m n <;> rfl
 |mpv m=>simp only[sc0];cases nqb m n <;> rfl
 |_=>rfl
theorem DS {P P':List Nat}(H:∀ m,yH m P=true->yH m P'=true)(v:PV):scB P' (scB P v)=scB P' v:=by
 cases hv:mC v with
 |false=>grind [J1,Zp,XA]| true=>cases v <;> first|(cases hv;done)|(simp only[scB];rw[sB _ _ _ (XA H)])
theorem Kj {P P':List Nat}(H:∀ m,yH m P=true->yH m P'=true)(v:PV):scC P' (scC P v)=scC P' v:=by
 cases hv:mC v with
 |false=>grind [J0,Zp,XA]| true=>cases v <;> first|(cases hv;done)|(simp only[scC];rw[sB _ _ _ (DS H)])
theorem UR (n:Nat)(P:List Nat)(v:PV):sc0 n (scA P v)=scA (n::P) v:=by
 have e:∀ m,yH m (n::P)=(nqb m n || yH m P):=λm=>by show (nqb n m || yH m P)=_;rw[CT]
 cases v with
 |ptr m off=>grind [scA,sc0]| aptr m s i off=>grind [scA,sc0]| osl m s i len=>grind [scA,sc0]| mpv m=>grind [scA,sc0]| _=>rfl
theorem Si (n:Nat)(P:List Nat)(v:PV):sc1 n (scB P v)=scB (n::P) v:=by
 cases hv:mC v with
 |false=>grind [J1,J2,Zp,UR]| true=>cases v <;> first|(cases hv;done)|(simp only[scB,sc1];rw[sB _ _ _ (UR n P)])
theorem Ge (n:Nat)(P:List Nat)(v:PV):scr n (scC P v)=scC (n::P) v:=by
 cases hv:mC v with
 |false=>grind [J0,JY,Zp,UR]| true=>cases v <;> first|(cases hv;done)|(simp only[scC,scr];rw[sB _ _ _ (Si n P)])
theorem ZI {P P':List Nat}(H:∀ m,yH m P=yH m P')(v:PV):scA P v=scA P' v:=by
 cases v with
 |ptr m off=>simp only[scA,H]| aptr m s i off=>simp only[scA,H]| osl m s i len=>simp only[scA,H]| mpv m=>simp only[scA,H]| _=>rfl
theorem FD {P P':List Nat}(H:∀ m,yH m P=yH m P')(v:PV):scB P v=scB P' v:=by
 cases hv:mC v with
 |false=>grind [J1,ZI]| true=>cases v <;> first|(cases hv;done)|(simp only[scB];rw[tM _ _ (ZI H)])
theorem dS {P P':List Nat}(H:∀ m,yH m P=yH m P')(v:PV):scC P v=scC P' v:=by
 cases hv:mC v with
 |false=>grind [J0,ZI]| true=>cases v <;> first|(cases hv;done)|(simp only[scC];rw[tM _ _ (FD H)])
theorem Hh (n:Nat)(v:PV):rf0 n (sc0 n v)=true:=by
 cases v with
 |ptr m off=>grind [sc0,rf0]| aptr m s i off=>grind [sc0,rf0]| osl m s i len=>grind [sc0,rf0]| mpv m=>grind [sc0,rf0]| _=>rfl
theorem lQ {f:PV->Bool}{g:PV->PV}(H:∀ v,f (g v)=true):∀ l:List PV,yT f (w5 g l)=true
 |[]=>rfl| v::r=>by simp only[w5,yT,H,lQ H r];rfl
theorem TJ (n:Nat)(v:PV):rf1 n (sc1 n v)=true:=by
 cases hv:mC v with
 |false=>grind [J2,Cr,Jj,Hh]| true=>cases v <;> first|(cases hv;done)|exact lQ (Hh n) _
theorem Hg (n:Nat)(v:PV):xZ n (scr n v)=true:=by
 cases hv:mC v with
 |false=>grind [JY,Cq,Jj,Hh]| true=>cases v <;> first|(cases hv;done)|exact lQ (TJ n) _
theorem HE {n:Nat}(hn:n<1000000)(T:List (Nat×PV))(O:List (Nat×Obj')):yQ n ⟨vZ (scr n) T,xL (scr n) (v8 O n)⟩=true:=by
 have h1:∀ T:List (Nat×PV),pU n (vZ (scr n) T)=true:=by
  intro T;induction T with
  |nil=>rfl| cons a r ih=>grind [vZ,pU,Hg]
 have h2:xK n (xL (scr n) (v8 O n))=true:=Yp hn λm o hm=>by
  obtain⟨o',q1,q2⟩:=vQ _ hm;refine⟨(vR q1).2,?_⟩;cases o' with
  |box cs=>subst q2;exact lQ (Hg n) cs| arr s e=>subst q2;trivial| log s e=>subst q2;trivial| lent s e=>subst q2;trivial| mp t k=>subst q2;trivial| mat s r q=>subst q2;exact oR (Hg n) q
 grind [yQ]
def scO (P:List Nat):Obj'->Obj':=wC (scC P)
theorem aP (P:List Nat){l:List (Nat×Obj')}{y:Nat×Obj'}:y∈xL (scC P) l↔∃ o,(y.1,o)∈l/\y.2=scO P o:=by
 constructor;{intro h;exact vQ (n:=y.1) (o:=y.2) _ h}
 ·(rintro⟨o,h1,h2⟩;have:=lA (scC P) h1;have e:y=(y.1,wC (scC P) o):=by rw[<-show scO P o=wC (scC P) o from rfl,<-h2]);grind
theorem DR {P:List Nat}{w:World}{S:Nat->Nat->Prop}{β:Bm}{n:Nat}{o:Obj'}(h:ObjAt w S β n o):ObjAt w S β n (scO P o):=ObjAt.map rfl (λ_ _ hx=>nW hx) h
theorem Gf {P:List Nat}{o:Obj'}{i:Nat}(h:gK o i):gK (scO P o) i:=pV h
theorem V7 (f g h:PV->PV)(H:∀ v,f (g v)=h v):∀ l:List (PV×(Unit->Nat)),s7 f (s7 g l)=s7 h l
 |[]=>rfl| (v,k)::r=>by simp only[s7,H,V7 f g h H r]
theorem We (f g:PV->PV)(H:∀ v,f v=g v):∀ l:List (PV×(Unit->Nat)),s7 f l=s7 g l
 |[]=>rfl| (v,k)::r=>by simp only[s7,H,We f g H r]
theorem Yv (f g h:PV->PV)(H:∀ v,f (g v)=h v)(o:Obj'):wC f (wC g o)=wC h o:=by
 cases o with
 |box cs=>grind [wC,sB]| mat s r q=>grind [wC,V7]| _=>rfl
theorem Yw (f g:PV->PV)(H:∀ v,f v=g v)(o:Obj'):wC f o=wC g o:=by
 cases o with
 |box cs=>simp only[wC];rw[tM _ _ H]| mat s r q=>simp only[wC];rw[We _ _ H]| _=>rfl
theorem Ki {P P':List Nat}(H:∀ m,yH m P=true->yH m P'=true)(o:Obj'):scO P' (scO P o)=scO P' o:=Yv _ _ _ (Kj H) o
theorem JZ {P P':List Nat}(H:∀ m,yH m P=yH m P'):scO P=scO P':=funext λo=>Yw _ _ (dS H) o
theorem nV {P P':List Nat}(H:∀ m,yH m P=yH m P')(o:Obj'):scO P o=scO P' o:=Yw _ _ (dS H) o
theorem Sim.weak {τ τ':Nat->PV}{objs objs':List (Nat×Obj')}{a:Act}{w:World}{S:Nat->Nat->Prop}{β:Bm}(h:Sim w0 S0 K0 N τ objs a w S β)(hτ:∀ t v,Rep w S β v (τ t)->Rep w S β v (τ' t))(hnd:(objs'.map Prod.fst).Nodup) (ho:∀ n o',(n,o')∈objs'->∃ o,(n,o)∈objs/\(ObjAt w S β n o->ObjAt w S β n o')/\(∀ i,gK o i->gK o' i)/\∀ b,Own β n o' b->Own β n o b):Sim w0 S0 K0 N τ' objs' a w S β where
 dfr:=h.dfr
 sz:=h.sz
 ld:=h.ld
 tmp t:=hτ t _ (h.tmp t)
 obj:=⟨hnd,λn o hm=>by obtain⟨o1,q1,q2,_⟩:=ho n o hm;exact q2 (h.obj.at_ n o1 q1),
  λn o b hm hβ=>by obtain⟨o1,q1,_,q3,q4⟩:=ho n o hm;exact⟨λi hS=>q3 i ((h.obj.un n o1 b q1 (q4 b hβ)).1 i hS),(h.obj.un n o1 b q1 (q4 b hβ)).2⟩,
  λn o m o' b hm hm' hβ hβ'=>by obtain⟨x,q1,_,_,g1⟩:=ho n o hm;obtain⟨y,q2,_,_,g2⟩:=ho m o' hm';exact h.obj.inj _ _ _ _ b q1 q2 (g1 b hβ) (g2 b hβ')⟩
 own n o b hm hβ:=by obtain⟨x,q1,_,_,g1⟩:=ho n o hm;exact h.own n x b q1 (g1 b hβ)
 keep n o hm hb:=by obtain⟨x,q1,_⟩:=ho n o hm;exact h.keep n x q1 hb
def PL (B:Nat->Bool):List (Nat×Nat)->List Nat
 |[]=>[]| (e,m)::r=>(match B e with|true=>m::PL B r|false=>PL B r)
theorem fF:∀ {l:List Nat} {n:Nat},yH n l=true↔n∈l:=λ{l n}=>⟨w8,s5⟩
theorem fC {B:Nat->Bool}{m:Nat}:∀ {es:List (Nat×Nat)},m∈PL B es↔∃ e,(e,m)∈es/\B e=true
 |[]=>by simp[PL]| (e,x)::r=>by
  unfold PL;cases hb:B e with
  |true =>
   simp only[yG,fC (es:=r)];grind
  |false =>
   simp only[fC (es:=r),yG];grind
theorem Z5 {an:List Nat}{i m:Nat}:∀ {es:List (Nat×Nat)},m∈fK an i es↔∃ e,(e,m)∈es/\(an.getD e 0).testBit i=false
 |[]=>by simp[fK]| (e,x)::r=>by
  unfold fK;cases hb:(an.getD e 0).testBit i with
  |true =>
   simp only[Z5 (es:=r),yG];grind
  |false =>
   simp only[yG,Z5 (es:=r)];grind
theorem qZ (P:List Nat):∀ (T:List (Nat×PV)) (t:Nat),zE (aV P T) t=(match yH t P with|true=>zE T t|false=>scC P (zE T t))
 |[],t=>by grind [aV,zE,scC,scA]| (u,v)::r,t=>by
  simp only[aV,zE];cases hu:nqb u t with
  |true=>grind [y5]| false=>exact qZ P r t
inductive ApStep (ops:List Oper) (es:List (Nat×Nat)) (an:List Nat) (lim:List (Nat×Obj')) (i:Nat) (o:Oper) (τ:Nat->PV) (pv:PV) (O O':List (Nat×Obj')):Prop
 |app {n x x0} (he:yR es i=some n) (hd:o.dst=some n) (hg:o.guard=none) (h0:yN O n=some x0) (hpv:∀ e m,(e,m)∈es->(an.getD i 0).testBit e=false->m≠n->scr m pv=pv) (hx0:∀ P,scO P x0=x0) (hx:∀ P,scO P x=x)
   (hfix:∀ t,t∈kT ops o->(∃ a b c,τ t=.osl n a b c)\/(∀ P,scC P (τ t)=τ t)\/t∈JB an i es)
   (hgo:∀ (T':List (Nat×PV)) (O1:List (Nat×Obj')),(∀ t,t∈kT ops o->zE T' t=τ t)->yN O1 n=some x0->yQ n ⟨vZ (scr n) T',xL (scr n) (v8 O1 n)⟩=true ->
    ∃ ps1,Wk ⟨T',O1⟩ ps1/\pY o ps1 (λp=>zE p.tmps=upd (λt=>scr n (zE T' t)) (some n) pv/\p.objs=xL (scr n) (v8 O1 n)++[(n,x)])) (hO:O'=setO O n x)
 |pure (he:yR es i=none) (h:pM false (xL (scC (fK an i es)) lim) ops o (λt=>scC (fK an i es) (τ t)) pv) (hO:O'=O)
theorem Zd {v:PV}(h:jO v=true):v=.nil\/v=.emp:=by cases v <;> first|exact .inl rfl|exact .inr rfl|exact absurd h (by simp[jO])
theorem Rm {ops:List Oper}{o:Oper}{n:Nat}{T:List (Nat×PV)}{O:List (Nat×Obj')}{K:PV->Obj'->Prop}(h:Mt o n T O K):∃ pv x x0,K pv x/\o.dst=some n/\o.guard=none/\yN O n=some x0/\(∀ m,m≠n->scr m pv=pv)/\(∀ P,scO P x0=x0)/\(∀ P,scO P x=x) /\ (∀ t,t∈kT ops o->(∃ a b c,zE T t=.osl n a b c)\/∀ P,scC P (zE T t)=zE T t) /\ ∀ (T':List (Nat×PV)) (O1:List (Nat×Obj')),(∀ t,t∈kT ops o->zE T' t=zE T t)->yN O1 n=some x0->yQ n ⟨vZ (scr n) T',xL (scr n) (v8 O1 n)⟩=true ->∃ ps1,Wk ⟨T',O1⟩ ps1/\pY o ps1 (λp=>zE p.tmps=upd (λt=>scr n (zE T' t)) (some n) pv/\p.objs=xL (scr n) (v8 O1 n)++[(n,x)]):=by
 have sn:∀ (m s:Nat) (a b:Unit->Nat),m≠n->scr m (.osl n s a b)=.osl n s a b:=λm s a b h=>by
  simp only[scr,sc0];cases e:nqb n m with
  |true=>exact absurd (y5 e).symm h| false=>rfl
 unfold Mt at h;cases hg:o.guard with
 |some g=>grind| none =>
 rw[hg] at h;simp only at h;split at h
 ·rename_i c hop;split at h
  ·rename_i hcl;split at h
   ·rename_i b x t tx d hargs htys hd;split at h
    ·(rename_i hc;simp only[yP] at hc;have hdn:=y5 hc.2;subst hdn;obtain⟨s,bb,z,xs,lg,els,h1,h2,h3,h5,hcase⟩:=h.h;have hmk:∀ (e:Unit->List (List D)) (P:List Nat),scO P (fH lg s e)=fH lg s e:=λe P=>by cases lg <;> rfl);have hlk:∀ u,u∈kT ops o->(b=.tmp u\/x=.tmp u):=λu hu=>by
      (unfold kT at hu;rw[hg] at hu;simp only[jV] at hu;rw[List.mem_filterMap] at hu;obtain⟨y,hy1,hy2⟩:=hu;have hy3:y=b\/y=x:=by grind [Op.operands,Call.operands]);grind
     rcases hcase with⟨o',len,h4,h6,h7,h8,h9⟩|⟨h4,h8,h9⟩
     ·refine⟨_,_,_,h9,hd,rfl,h5,λm=>sn m _ _ _,hmk _,hmk _,λu hu=>?_,λT' O1 hT hO hfr=>⟨_,.refl _,?_⟩⟩;{rcases hlk u hu with e|e;{rw[e] at h4;exact .inl ⟨_,_,_,h4⟩};{rw[e] at h2;rcases h2 with h2|⟨h2,_⟩;{exact .inr λP=>by rw[show zE T u=_ from h2];rfl};{exact .inr λP=>by rw[show zE T u=_ from h2];rfl}}}
      ·(have hev:=o7 hg hT;have e1:ev (zE T') b=.osl d s o' len:=by grind [Op.operands,Call.operands]);have e2:ev (zE T') x=ev (zE T) x:=hev x (by grind [Op.operands,Call.operands])
       unfold pY;simp only[hop,hcl];rw[hargs,htys];simp only[hc.1];refine⟨.inl ⟨⟨T',O1⟩,d,d,s,bb,z,xs,.refl _,hd,h1,.inl (by grind),h3,.inr ⟨lg,d,o',len,els,els,e1,hO,h6,h7,by rw[h7];simp,λ_=>rfl,h8,hfr,?_,rfl⟩⟩⟩;grind [gL,upd,uK,aJ]
     ·refine⟨_,_,_,h9,hd,rfl,h5,λm=>sn m _ _ _,hmk _,λ_=>rfl,λu hu=>?_,λT' O1 hT hO hfr=>⟨_,.refl _,?_⟩⟩;{rcases hlk u hu with e|e;{rw[e] at h4;rcases Zd h4 with h4|h4;{exact .inr λP=>by rw[show zE T u=_ from h4];rfl};{exact .inr λP=>by rw[show zE T u=_ from h4];rfl}};{rw[e] at h2;rcases h2 with h2|⟨h2,_⟩;{exact .inr λP=>by rw[show zE T u=_ from h2];rfl};{exact .inr λP=>by rw[show zE T u=_ from h2];rfl}}}
      ·(have hev:=o7 hg hT;have e1:jO (ev (zE T') b)=true:=by grind [Op.operands,Call.operands]);have e2:ev (zE T') x=ev (zE T) x:=hev x (by grind [Op.operands,Call.operands])
       have hsc:∀ (y:Operand),(jO (ev (zE T') y)=true\/∃ a,ev (zE T') y=.sl a)->ev (zE (vZ (scr d) T')) y=ev (zE T') y:=λy hy=>by
        cases y with
        |tmp u =>
         have e:ev (zE (vZ (scr d) T')) (.tmp u)=scr d (ev (zE T') (.tmp u)):=uK _ (aJ d) _ _;rw[e];rcases hy with hy|⟨a,hy⟩;{rcases Zd hy with hy|hy <;> rw[hy] <;> rfl};{rw[hy];rfl}
        |_=>rfl
       (have e3:jO (ev (zE (vZ (scr d) T')) b)=true:=by grind);have e4:ev (zE (vZ (scr d) T')) x=ev (zE T) x:=by grind [jO]
       unfold pY;simp only[hop,hcl];rw[hargs,htys];simp only[hc.1];refine⟨.inl ⟨⟨vZ (scr d) T',xL (scr d) (v8 O1 d)⟩,d,d,s,bb,z,xs,.drop d,hd,h1,.inl (by grind),h3,.inl ⟨e3,h8,hfr,?_,rfl⟩⟩⟩;grind [gL,upd,uK,aJ]
    grind
   grind
  ·rename_i g hcl;split at h
   ·rename_i d hd;split at h
    ·rename_i hc;have hdn:=y5 hc;subst hdn;obtain⟨f,caps,hn,cargs,m,k,s,els,els',o',l',h1,h2,h3,h4,hm,hkd,h5,h6,h7,h8⟩:=h.h;have hlk:∀ u,u∈kT ops o->.tmp u∈c.args.toList:=λu hu=>by
      (unfold kT at hu;rw[hg] at hu;simp only[jV] at hu;rw[List.mem_filterMap] at hu;obtain⟨y,hy1,hy2⟩:=hu;have:y=.tmp u:=by grind);subst this
      rw[hop] at hy1;simp only[Op.operands,Call.operands,hcl,Array.toList_append,uX] at hy1;rcases hy1 with hy1|hy1;{simp at hy1;subst hy1;cases h2};omega
     have hfx:∀ (l:List Operand) (u:Nat),Operand.tmp u∈l->yT (Mi d) (evs (ev (zE T)) l)=true->Mi d (zE T u)=true:=by
      intro l u;induction l with
      |nil=>grind| cons y l ih =>
       intro h q;simp only[evs,yT,yP] at q;rcases yG.1 h with e|h;{subst e;exact q.1};grind
     refine⟨_,_,_,h8,hd,rfl,h5,λm=>sn m _ _ _,λ_=>rfl,λ_=>rfl,λu hu=>?_,λT' O1 hT hO hfr=>⟨_,.refl _,?_⟩⟩
     ·have:=hfx _ u (hlk u hu) h7;generalize zE T u=v at this ⊢;cases v with
      |osl m' a b c =>
       have e:=y5 (show nqb m' d=true from this);grind
      |agg _=>cases this
      |tup _=>cases this
      |fn _ _=>cases this
      |ptr _ _=>cases this
      |aptr _ _ _ _=>cases this
      |mpv _=>cases this
      |_=>exact .inr λP=>rfl
     ·(have hev:=o7 hg hT;have e1:ev (zE T') g=.fn f caps:=by grind [Op.operands,Call.operands]);have e2:evs (ev (zE T')) c.args.toList=evs (ev (zE T)) c.args.toList:=p9 λy hy=>hev y (by grind [Op.operands,Call.operands])
      unfold pY;simp only[hop,hcl];refine⟨⟨T',O1⟩,.refl _,f,caps,e1,.inr ⟨hn,cargs,[],[(m,.arr s els)],_,[],[(k,.arr s els')],by grind,h4,⟨⟨by rw[hm];exact hO,rfl⟩,trivial⟩,rfl,rfl,rfl,rfl,?_,h6,rfl,?_,?_⟩⟩;{show (yQ (hn k) (pF hn [(m,.arr s els)] ⟨T',O1⟩)&&true)=true;rw[Bool.and_true,hkd];show yQ d ⟨vZ (scr (hn m)) T',xL (scr (hn m)) (v8 O1 (hn m))⟩=true;grind};{show nmIn [k] (.osl k s o' l')=true;simp[nmIn,nm0,yH]}
      ·have e3:aM hn [(m,.arr s els)] [] [(k,.arr s els')] ⟨T',O1⟩=⟨vZ (scr d) T',xL (scr d) (v8 O1 d)++[(d,.arr s els')]⟩:=by show (⟨vZ (scr (hn m)) T',xL (scr (hn m)) (v8 O1 (hn m))++[(hn k,.arr s els')]⟩:PS)=_;grind
       (rw[e3,hd];have e4:ren hn (.osl k s o' l')=.osl d s o' l':=by show PV.osl (hn k) s o' l'=_;rw[hkd]);rw[e4]
       refine⟨?_,rfl⟩;funext t;show zE (uA (vZ (scr d) T') d _) t=_;grind [gL,upd,uK,aJ]
    grind
   grind
  grind
 ·rename_i t hop;split at h
  ·rename_i d x s els hm hO0;split at h
   ·rename_i hc;have hdn:=y5 hc;subst hdn;obtain⟨_,hd,t',hop',hno,hx⟩:=s6 hm;rw[hop] at hop';cases hop';subst hx;refine⟨_,_,_,h,hd,rfl,hO0,λm hm=>?_,λ_=>rfl,λP=>?_,λu hu=>?_,λT' O1 hT hO hfr=>⟨_,.drop d,?_⟩⟩
    ·simp only[scr,sc0];cases e:nqb d m with
     |true=>exact absurd (y5 e).symm hm| false=>rfl
    {show Obj'.box (w5 (scC P) (ty t).zero)=_;rw[Q0 (Q:=λl=>w5 (scC P) l=l) hno rfl (λv l ih=>by simp only[w5,ih];congr 1;unfold wU;split <;> rfl) rfl]};{exfalso;unfold kT at hu;rw[hg,hop] at hu;simp[Op.operands] at hu};{unfold pY;simp only[hop,hd,hno];unfold ZO;rw[hfr];refine⟨?_,rfl⟩;funext u;show zE (uA (vZ (scr d) T') d _) u=_;grind [gL,upd,uK,aJ]}
   {cases h}
  {cases h}
 grind
theorem WV {an:List Nat}{i m:Nat}:∀ {es:List (Nat×Nat)},m∈JB an i es↔∃ e,(e,m)∈es/\(an.getD i 0).testBit e=true
 |[]=>by simp[JB]| (e,x)::r=>by
  unfold JB;cases hb:(an.getD i 0).testBit e with
  |true =>
   simp only[yG,WV (es:=r)];grind
  |false =>
   simp only[WV (es:=r),yG];grind
theorem XZ {an:List Nat}{i m:Nat}:∀ {es:List (Nat×Nat)},m∈FM an i es↔∃ e,(e,m)∈es/\(an.getD i 0).testBit e=false
 |[]=>by simp[FM]| (e,x)::r=>by
  unfold FM;cases hb:(an.getD i 0).testBit e with
  |true =>
   simp only[XZ (es:=r),yG];grind
  |false =>
   simp only[yG,XZ (es:=r)];grind
theorem Wf {f:PV->PV}{g:PV->Bool}(h:∀ v,g v=true->f v=v):∀ l,yT g l=true->w5 f l=l
 |[],_=>rfl| v::r,q=>by simp only[yT,yP] at q;simp only[w5,h v q.1,Wf h r q.2]
theorem J3 {n:Nat}{v:PV}(h:rf0 n v=true):sc0 n v=v:=by cases v <;> first|rfl|(cases h;done)|(simp only[rf0,YF] at h;simp only[sc0,h])
theorem Tc {n:Nat}{v:PV}(h:rf1 n v=true):sc1 n v=v:=by
 cases hv:mC v with
 |false=>rw[J2 hv];exact J3 (by rwa [Cr hv] at h)| true=>cases v <;> first|(cases hv;done)|(simp only[sc1];rw[Wf (λ_=>J3) _ h])
theorem DQ {n:Nat}{v:PV}(h:xZ n v=true):scr n v=v:=by
 cases hv:mC v with
 |false=>rw[JY hv];exact J3 (by rwa [Cq hv] at h)| true=>cases v <;> first|(cases hv;done)|(simp only[scr];rw[Wf (λ_=>Tc) _ h])
theorem Bz {v:PV}(h:qO v=true)(P:List Nat):scC P v=v:=by cases v <;> first|rfl|cases h
theorem iS {T:List (Nat×PV)}{n:Nat}{A:List Nat}:∀ {l:List (Nat×Operand)},nZ T n A l=true->∀ t,.tmp t∈l.map (·.2)->xZ n (zE T t)=true/\(qO (zE T t)=true\/t∈A)
 |(j,x)::r,h,t,ht=>by
  rw[jH,yG] at ht;cases x with
  |tmp u =>
   simp only[nZ,yP,Va] at h;rcases ht with e|ht;{cases e;exact⟨h.1.1,h.1.2.imp id w8⟩};{exact iS h.2 t ht}
  |_ =>
   rcases ht with e|ht;{cases e};{exact iS (by simpa only [nZ] using h) t ht}
 |[],_,t,ht=>by simp at ht
theorem RF {ops:List Oper}{es:List (Nat×Nat)}{an:List Nat}{i:Nat}{o:Oper}{n:Nat}{T:List (Nat×PV)}{O:List (Nat×Obj')}{K:PV->Obj'->Prop}(h:MF es an i o n T O K):∃ pv x x0,K pv x/\o.dst=some n/\o.guard=none/\yN O n=some x0/\(∀ e m,(e,m)∈es->(an.getD i 0).testBit e=false->m≠n->scr m pv=pv)/\(∀ P,scO P x0=x0)/\(∀ P,scO P x=x) /\ (∀ t,t∈kT ops o->(∃ a b c,zE T t=.osl n a b c)\/(∀ P,scC P (zE T t)=zE T t)\/t∈JB an i es) /\ ∀ (T':List (Nat×PV)) (O1:List (Nat×Obj')),(∀ t,t∈kT ops o->zE T' t=zE T t)->yN O1 n=some x0->yQ n ⟨vZ (scr n) T',xL (scr n) (v8 O1 n)⟩=true ->∃ ps1,Wk ⟨T',O1⟩ ps1/\pY o ps1 (λp=>zE p.tmps=upd (λt=>scr n (zE T' t)) (some n) pv/\p.objs=xL (scr n) (v8 O1 n)++[(n,x)]):=by
 unfold MF at h;split at h
 ·rename_i t parts d s els hg hop hd hO0;split at h
  ·rename_i nn fs z hty;split at h
   ·rename_i cs hcs;split at h
    ·(rename_i hc;simp only[yP] at hc;obtain⟨⟨hc1,hc2⟩,hc3⟩:=hc;have hdn:=y5 hc1;subst hdn;have hpo:=iS hc2;have hops:∀ x,x∈parts.toList.map (·.2)->x∈o.op.operands.toList:=λx hx=>by rw[hop];simpa[Op.operands] using hx);have hops':∀ x,x∈o.op.operands.toList->x∈parts.toList.map (·.2):=λx hx=>by rw[hop] at hx;simpa[Op.operands] using hx
     have hlk:∀ u,u∈kT ops o↔.tmp u∈parts.toList.map (·.2):=λu=>by
      unfold kT;rw[hg];simp only[jV];rw[List.mem_filterMap];constructor
      ·(rintro⟨y,hy1,hy2⟩;have:y=.tmp u:=by grind);subst this
       exact hops' _ hy1
      {intro hu;exact⟨_,hops _ hu,rfl⟩}
     refine⟨_,_,_,h,hd,hg,hO0,λe m he hb hm=>?_,λ_=>rfl,λ_=>rfl,λu hu=>?_,λT' O1 hT hO hfr=>⟨_,.trans (.drop d) (.fresh d s hfr),?_⟩⟩
     ·have hall:∀ (l:List Nat),Y1 d (.agg cs) l=true->∀ m,m∈l->(nqb m d || xZ m (.agg cs))=true:=by
       intro l;induction l with
       |nil=>grind| cons a r ih=>grind [Y1]
      have:=hall _ hc3 m (XZ.2 ⟨e,he,hb⟩);rw[Va] at this;exact DQ (this.resolve_left λq=>hm (y5 q))
     {obtain⟨g1,g2⟩:=hpo u ((hlk u).1 hu);exact .inr (g2.imp (λg=>Bz g) id)}
     ·have hev:vO (ev (zE (vZ (scr d) T'))) parts.toList=vO (ev (zE T)) parts.toList:=cS λy hy=>by
       cases y with
       |tmp u =>
        show zE (vZ (scr d) T') u=zE T u;rw[uK _ (aJ d),hT u ((hlk u).2 hy)];exact DQ (hpo u hy).1
       |_=>rfl
      unfold pY;simp only[hop];unfold sop;simp only[hty];rw[hev,hcs,hd];refine⟨?_,rfl⟩;funext u;show zE (uA (vZ (scr d) T') d _) u=_;grind [gL,upd,uK,aJ]
    {cases h}
   {cases h}
  {cases h}
 {cases h}
theorem Am {ops:List Oper}{es:List (Nat×Nat)}{an:List Nat}{lim:List (Nat×Obj')}{K:List (Nat×PV)->List (Nat×Obj')->Prop}:∀ (l:List Oper) (i:Nat) {T:List (Nat×PV)} {O:List (Nat×Obj')},Vt ops es an lim l i T O K ->∃ (pvs:List PV) (Ob:Nat->List (Nat×Obj')) (T':List (Nat×PV)),pvs.length=l.length/\Ob 0=O/\K T' (Ob l.length)/\zE T'=aH l pvs (zE T) /\ ∀ j o pv,l[j]?=some o->pvs[j]?=some pv->ApStep ops es an lim (i+j) o (aH (l.take j) (pvs.take j) (zE T)) pv (Ob j) (Ob (j+1))
 |[],i,T,O,h=>⟨[],λ_=>O,T,rfl,rfl,h,rfl,λj o pv h=>by simp at h⟩| o::r,i,T,O,h=>by
  obtain⟨pv,O1,T1,h1,ht1,hst⟩:∃ pv O1 T1,Vt ops es an lim r (i+1) T1 O1 K/\zE T1=upd (zE T) o.dst pv/\ApStep ops es an lim i o (zE T) pv O O1:=by
   unfold Vt at h;cases he:yR es i with
   |some n =>
    rw[he] at h;simp only at h;cases hb:Pe o.op with
    |true =>
     rw[hb] at h;obtain⟨pv,x,x0,q1,q2,q3,q4,q5,q6,q7,q8,q9⟩:=RF (ops:=ops) h;exact⟨pv,_,_,q1,wV _ _ _,.app he q2 q3 q4 q5 q6 q7 q8 q9 rfl⟩
    |false =>
     rw[hb] at h;obtain⟨pv,x,x0,q1,q2,q3,q4,q5,q6,q7,q8,q9⟩:=Rm (ops:=ops) h;exact⟨pv,_,_,q1,wV _ _ _,.app he q2 q3 q4 (λ_ m _ _=>q5 m) q6 q7 (λt ht=>(q8 t ht).imp id .inl) q9 rfl⟩
   |none =>
    rw[he] at h;simp only at h;have hm:zE (vZ (scC (fK an i es)) T)=λt=>scC (fK an i es) (zE T t):=funext λt=>uK _ rfl _ _;rw[hm] at h;rcases Kc h with⟨pv,q1,q2⟩|⟨q1,q2⟩;{obtain⟨pv',p,g1,g2,g3,g4⟩:=Ky q1;exact⟨pv',O,p.tmps,g2,g4,.pure he (q2 pv' g1) rfl⟩};{exact⟨.tup [],O,_,q1,wV _ _ _,.pure he q2 rfl⟩}
  obtain⟨pvs,Ob,T',g1,g2,g3,g4,g5⟩:=Am r (i+1) h1;refine⟨pv::pvs,λj=>match j with|0=>O|j+1=>Ob j,T',by simp[g1],rfl,by omega,by rw[g4,ht1];rfl,λj o' pv' hj hp=>?_⟩;cases j with
  |zero =>
   simp only[Zx,mF] at hj hp;subst hj hp;show ApStep ops es an lim i o _ pv O (Ob 0);rw[g2];exact hst
  |succ j =>
   simp only[Zw] at hj hp;have:=g5 j o' pv' hj hp;rw[ht1] at this;rw[show i+(j+1)=i+1+j by omega];exact this
theorem Wi:∀ {es:List (Nat×Nat)} {i m:Nat},yR es i=none->(i,m)∉es
 |(a,b)::r,i,m,h,hm=>by
  unfold yR at h;cases ha:nqb a i with
  |true=>grind| false =>
   rw[ha] at h;rcases yG.1 hm with e|hm;{simp_all};{exact Wi h hm}
 |[],i,m,_,hm=>by grind
theorem mJ:∀ {es:List (Nat×Nat)} {m:Nat},m∈qY es↔∃ e,(e,m)∈es
 |[],m=>by simp[qY]| (e,x)::r,m=>by
  simp only[qY,yG,mJ (es:=r)];constructor
  ·rintro (rfl|⟨e',h⟩)
   all_goals grind
  grind
def Vf (es:List (Nat×Nat)) (O0:List (Nat×Obj')) (X:Nat->Obj') (B:Nat->Bool) (y:Nat×Obj'):Prop :=
 ∃ o,(y.1,o)∈O0/\y.2=scO (PL B es) (match yH y.1 (PL B es) with|true=>X y.1|false=>o)
theorem eT {es:List (Nat×Nat)}{O0:List (Nat×Obj')}{X:Nat->Obj'}{B B':Nat->Bool}(h:∀ m,yH m (PL B es)=yH m (PL B' es))(y:Nat×Obj'):Vf es O0 X B y↔Vf es O0 X B' y:=by grind [Vf,nV]
theorem Pp {es:List (Nat×Nat)}{B B':Nat->Bool}(h:∀ e m,(e,m)∈es->B e=B' e)(m:Nat):yH m (PL B es)=yH m (PL B' es):=by rw[r8,fF,fF,fC,fC];grind
theorem MO {es:List (Nat×Nat)}{B B':Nat->Bool}{i n:Nat}(hi:(i,n)∈es)(hu:∀ m,(i,m)∈es->m=n)(hB:∀ e,B' e=(B e || nqb e i))(m:Nat):yH m (PL B' es)=yH m (n::PL B es):=by
 rw[r8,fF,fF,fC,yG,fC];constructor;{rintro⟨e,h1,h2⟩;rw[hB] at h2;simp only[Va] at h2;grind [y5]}
 ·rintro (rfl|⟨e,h1,h2⟩)
  all_goals grind [nqb_self]
def Tb (n:Nat):Obj'->Obj':=wC (scr n)
theorem Mx {ops:List Oper}{k:Nat}(D:DrawOk ops k){Q:Exit->Act->World->Prop}{K:PS->Prop}(hdst:∀ o,o∈ops->nB N o=true)(hk:∀ ps' a' w' S' β',K ps'->Sim w0 S0 K0 N (zE ps'.tmps) ps'.objs a' w' S' β'->Q .normal a' w') {T0 T2:List (Nat×PV)} {O0 O2:List (Nat×Obj')} {pvs:List PV} {es:List (Nat×Nat)} {X:Nat->Obj'} {Ob:Nat->List (Nat×Obj')} (hkl:k<=ops.length) (hlen:pvs.length=(ops.take k).length) (hK:jE ops (ops.drop k) ⟨aV (qY es) T2,O2⟩ K) (ht2:zE T2=aH (ops.take k) pvs (zE T0)) (hO2:∀ y,y∈O2↔Vf es O0 X (λj=>decide (j<k)) y) (hnd2:(O2.map Prod.fst).Nodup) (hes:∀ e m,(e,m)∈es->e<k/\m<1000000/\yR es e=some m) (hinj:∀ {i j n},yR es i=some n->yR es j=some n->i=j) (hst:∀ i o pv,(ops.take k)[i]?=some o->pvs[i]?=some pv->ApStep ops es (anc ops) (gI (qY es) O0) i o (aH ((ops.take k).take i) (pvs.take i) (zE T0)) pv (Ob i) (Ob (i+1))) (h0:∀ i n x0,i<k->yR es i=some n->yN (Ob i) n=some x0->(n,x0)∈O0) (hX:∀ i n x x0,i<k->yR es i=some n->yN (Ob i) n=some x0->Ob (i+1)=setO (Ob i) n x->X n=x) (hnd0:(O0.map Prod.fst).Nodup):∀ (fuel:Nat) (L:Array Bool) {a:Act} {w:World} {S:Nat->Nat->Prop} {β:Bm} {G:List (Nat×PV)} {objs':List (Nat×Obj')},L.size=ops.length->(∀ j,j<ops.length->k<=j->¬Lst L j)->(∀ i o,ops[i]?=some o->Lst L i->nK (Lst L) o)->unl L ops.length<=fuel ->Sim w0 S0 K0 N (zE (aV (PL (λi=>L.getD i false) es) G)) objs' a w S β->(∀ y,y∈objs'↔Vf es O0 X (λi=>L.getD i false) y)->At ops k pvs (zE T0) (Lst L) (zE G)->wpAny Pg .any ops.toArray Q fuel L a w:=by
 have hpl:k<=pvs.length:=by grind
 have htx:At ops k pvs (zE T0) (λj=>j<k) (zE T2):=by have htx:=At.text (τ0:=zE T0) D hlen k (yD _);grind
 have hall1:∀ {L:Array Bool},(∀ j,j<k->Lst L j)->(∀ m,yH m (PL (λi=>L.getD i false) es)=yH m (qY es))/\∀ m,yH m (PL (λi=>L.getD i false) es)=yH m (PL (λj=>decide (j<k)) es):=by intro L hfull;refine⟨λm=>?_,Pp λe m he=>?_⟩;{rw[r8,fF,fF,fC,mJ];exact⟨λ⟨e,h1,_⟩=>⟨e,h1⟩,λ⟨e,h1⟩=>⟨e,h1,hfull e (hes e m h1).1⟩⟩};grind [Lst]
 have hendT:∀ {G:List (Nat×PV)} {L:Array Bool},(∀ j,j<k->Lst L j)->At ops k pvs (zE T0) (Lst L) (zE G)->zE (aV (PL (λi=>L.getD i false) es) G)=zE (aV (qY es) T2):=by
  (intro G L hfull hat;have hg:zE G=zE T2:=by funext t;exact hat.same D hpl htx λj o hj ho hd=>.inl ⟨hfull j hj,hj⟩);funext t;rw[qZ,qZ,hg,(hall1 hfull).1,dS (hall1 hfull).1]
 intro fuel;induction fuel with
 |zero =>
  (intro L a w S β G objs' hsz hge hcl hun h hin hat;have hall:=Xm (Nat.le_zero.1 hun);have hall':∀ j,j<ops.length->Lst L j:=λj hj=>by have h1:=hall j hj;rw[jA oM true false] at h1;exact h1);have hkn:ops.length<=k:=by rcases kV k ops.length with h'|h';{grind};omega
  have hfull:∀ j,j<k->Lst L j:=λj hj=>hall' j oM;refine Fc D hdst hk 0 k L (ps:=⟨aV (qY es) T2,O2⟩) (S:=S) (β:=β) (yD _) hkl hsz (λj hj=>⟨λ_=>by omega,λ_=>hall' j hj⟩) oM ?_ hK;show Sim w0 S0 K0 N (zE (aV (qY es) T2)) O2 a w S β;rw[<-hendT hfull hat];exact h.perm (λx=>by rw[hO2 x,hin x,eT (hall1 hfull).2 x]) hnd2
 |succ fuel ih =>
  intro L a w S β G objs' hsz hge hcl hun h hin hat;by_cases hfull:∀ j,j<k->Lst L j
  ·refine Fc D hdst hk (fuel+1) k L (ps:=⟨aV (qY es) T2,O2⟩) (S:=S) (β:=β) (yD _) hkl hsz (λj hj=>⟨λhl=>?_,λhj'=>hfull j hj'⟩) ?_ ?_ hK;{rcases kV j k with h'|h';{exact h'};grind}
   ·have cnt:∀ n,k<=n->n<=ops.length->n<=k+unl L n:=by
     intro n;induction n with
     |zero=>omega| succ n ihn =>
      intro hkn hn;simp only[unl];by_cases hk0:k=n+1;{omega}
      ·(have:=ihn oM oM;have hnl:=hge n oM oM;have:L.getD n true≠true:=by rw[jA oM true false];exact hnl);grind
    grind
   {show Sim w0 S0 K0 N (zE (aV (qY es) T2)) O2 a w S β;rw[<-hendT hfull hat];exact h.perm (λx=>by rw[hO2 x,hin x,eT (hall1 hfull).2 x]) hnd2}
  ·have hun0:∃ j,j<k/\¬Lst L j/\∀ i,i<j->Lst L i:=by
    have:∀ n,n<=k->(∀ i,i<n->Lst L i)\/∃ j,j<k/\¬Lst L j/\∀ i,i<j->Lst L i:=by
     intro n;induction n with
     |zero=>grind| succ n ihn =>
      intro hn;rcases ihn oM with h1|h1;{by_cases hx:Lst L n;{refine .inl λi hi=>?_;by_cases e:i=n;{grind};grind};{exact .inr ⟨n,by omega,hx,h1⟩}};{exact .inr h1}
    rcases this k (yD _) with h1|h1;{grind};omega
   obtain⟨j0,hj0,hnj0,hbelow⟩:=hun0;refine⟨λhr=>?_,λi hi=>?_⟩
   ·(exfalso;have hlt:j0<ops.length:=by omega);have hin:j0∈Region.ready .any ops.toArray L:=by
     refine mem_ready.2 ⟨?_,ops[j0],by simp[hlt],λe he hb=>?_⟩
     ·rw[jA oM true false];cases hx:L.getD j0 false with
      |false=>rfl| true=>exact absurd hx hnj0
     {exact hbelow e.on (D.back j0 _ (gC hlt) e (by grind) hb)}
    grind
   ·(obtain⟨h1,o,h2,h3⟩:=mem_ready.1 hi;have ho:ops[i]?=some o:=by simpa using h2);have hlt:i<ops.length:=(wE.1 ho).1
    have hE:nK (Lst L) o:=λe he hb=>h3 e (by simpa using he) hb;have hik:i<k:=by rcases kV i k with h'|h';{exact h'};{exact absurd (vX hcl ho hE (D.rest i j0 hlt h' oM)) hnj0}
    (have hp:pvs[i]?=some pvs[i]:=gC oM;have hdo:=nA (hdst o (z3 ho));have hsize:i<L.size:=by omega);have hnl:¬Lst L i:=λhl=>by rw[jA oM true false] at h1;unfold Lst at hl;grind
    have hagree:∀ t,t∈kT ops o->aH ((ops.take k).take i) (pvs.take i) (zE T0) t=zE G t:=λt ht=>At.same D hpl (At.text D hlen i oM) hat λj oj hj hoj hd=>by rcases D.look i o t j oj hik hj ho hoj ht hd with⟨q1,q2⟩|⟨q1,q2⟩;{exact .inl ⟨q1,vX hcl ho hE q2⟩};{refine .inr ⟨by omega,λhl=>?_⟩;have:=vX hcl hoj (hcl j oj hoj hl) q2;grind}
    (have hLs:∀ j,Lst (L.setIfInBounds i true) j↔Lst L j\/j=i:=dI hsize;have hB:∀ e,(L.setIfInBounds i true).getD e false=(L.getD e false || nqb e i):=λe=>by have:=hLs e;unfold Lst at this;rw[r8,this,Va,nqb_iff]);have hnext:∀ {a':Act} {w':World} {S':Nat->Nat->Prop} {β':Bm} {G':List (Nat×PV)} {objs3:List (Nat×Obj')},zE G'=upd (zE G) o.dst pvs[i]->Sim w0 S0 K0 N (zE (aV (PL (λe=>(L.setIfInBounds i true).getD e false) es) G')) objs3 a' w' S' β' ->
      (∀ y,y∈objs3↔Vf es O0 X (λe=>(L.setIfInBounds i true).getD e false) y)->wpAny Pg .any ops.toArray Q fuel (L.setIfInBounds i true) a' w':=by
     intro a' w' S' β' G' objs3 hT hsim g1;refine ih (L.setIfInBounds i true) (by simpa using hsz) (λj hj hkj hl=>?_) (λj oj hoj hl=>?_) ?_ hsim g1 (by rw[hT];exact hat.step D hik ho hp λj=>dI hsize j);{rcases (dI hsize j).1 hl with hl|hl;{exact hge j hj hkj hl};{omega}};{intro e he hb;rw[dI hsize];rcases (dI hsize j).1 hl with hl|hl;{exact .inl (hcl j oj hoj hl e he hb)};{subst hl;rw[ho] at hoj;cases hoj;exact .inl (hE e he hb)}};{have:=UF h1 hlt;omega}
    have hG':zE (put ⟨G,[]⟩ o.dst pvs[i]).tmps=upd (zE G) o.dst pvs[i]:=wV _ _ _;have hlist:∀ e m,(e,m)∈es->L.getD e false=true->∃ oe,ops[e]?=some oe/\oe.dst=some m/\∀ i' n',yR es i'=some n'->¬Lst L i'->n'≠m->scr n' (zE G m)=zE G m:=λe m he hle=>by
     obtain⟨q1,q2,q3⟩:=hes e m he;have hoe:ops[e]?=some ops[e]:=gC oM;have hpe:pvs[e]?=some pvs[e]:=gC oM;cases hst e ops[e] pvs[e] (by rw[bT q1];exact hoe) hpe with
     |pure he' _ _=>rw[he'] at q3;cases q3
     |app he' hd hg h0' hpv _ _ _ _ _ =>
      rw[he'] at q3;cases q3;refine⟨_,hoe,hd,λi' n' h1 h2 h3=>?_⟩;rw[hat.hit e _ _ _ q1 hle hoe hpe hd];refine hpv i' n' (kZ h1) ?_ h3;cases hx:((anc ops).getD e 0).testBit i' with
      |false=>rfl| true=>exact absurd (vX hcl hoe (hcl e _ hoe hle) hx) h2
    have hPn:∀ n,yR es i=some n->yH n (PL (λe=>L.getD e false) es)=false:=λn hn=>by
     cases hx:yH n (PL (λe=>L.getD e false) es) with
     |false=>rfl| true =>
      obtain⟨e,q1,q2⟩:=fC.1 (w8 hx);have:=hinj (hes e n q1).2.2 hn;subst this;exact absurd q2 hnl
    have hstep:=hst i o pvs[i] (by rw[bT hik];exact ho) hp;generalize hPP:PL (λe=>L.getD e false) es=P at *;cases hstep with
    | @app n x x0 he hd hg hget hpv hx0 hx hfix hgo hO =>
     (have hXx:X n=x:=hX i n x x0 hik he hget hO;have hin0:(n,x0)∈O0:=h0 i n x0 hik he hget;have hnP:=hPn n he;have hino:(n,x0)∈objs':=by rw[hin];refine⟨x0,hin0,?_⟩;show x0=scO (PL _ es) (match yH n (PL _ es) with|true=>X n|false=>x0);rw[hPP,hnP];exact (hx0 P).symm);have hgetr:yN objs' n=some x0:=uI h.obj.nd hino;have hfixr:∀ t,t∈kT ops o->zE (aV P G) t=aH ((ops.take k).take i) (pvs.take i) (zE T0) t:=λt ht=>by
      rw[qZ,hagree t ht];cases hm:yH t P with
      |true=>rfl| false =>
       rw[<-hagree t ht];rcases hfix t ht with⟨a1,b1,c1,e⟩|e|e;{rw[e];simp only[scC,scA,hnP]};{exact e P};{obtain⟨j,q1,q2⟩:=WV.1 e;have q3:=s5 ((fC (B:=λe=>L.getD e false)).2 ⟨j,q1,vX hcl ho hE q2⟩);rw[hPP,hm] at q3;cases q3}
     (have hmn:=(hes i n (kZ he)).2.1;obtain⟨ps1,hwk,hs0⟩:=hgo (aV P G) objs' hfixr hgetr (HE hmn _ _);obtain⟨S1,β1,h1s⟩:=hwk.sound (ps:=⟨aV P G,objs'⟩) h;have hPL:∀ m,yH m (PL (λe=>(L.setIfInBounds i true).getD e false) es)=yH m (n::P):=λm=>by rw[<-hPP];exact MO (kZ he) (λm' hm'=>by have:=(hes i m' hm').2.2;rw[he] at this;cases this;rfl) hB m);refine nN ho (.inl ⟨by simp[Region.wanted,hg],sZ (ps:=ps1) h1s hs0 hdo λps' a' w' S' β' hK hsim=>?_⟩);obtain⟨hK1,hK2⟩:=hK;rw[hK2] at hsim;have hTT:zE ps'.tmps=zE (aV (PL (λe=>(L.setIfInBounds i true).getD e false) es) (put ⟨G,[]⟩ o.dst pvs[i]).tmps):=by
      (rw[hK1];funext t;rw[qZ,hG',hd,hPL t];show (if t=n then pvs[i] else scr n (zE (aV P G) t))=match nqb n t || yH t P with|true=>(if t=n then pvs[i] else zE G t)|false=>scC _ (if t=n then pvs[i] else zE G t));by_cases htn:t=n
      {subst htn;rw[nqb_self,if_pos rfl,if_pos rfl];rfl}
      ·have:nqb n t=false:=by
        cases hx:nqb n t with
        |false=>rfl| true=>exact absurd (y5 hx).symm htn
       rw[this,r9,if_neg htn,if_neg htn,qZ];cases hm:yH t P with
       |true =>
        rw[<-hPP] at hm;obtain⟨e,q1,q2⟩:=fC.1 (w8 hm);obtain⟨oe,_,_,e1⟩:=hlist e t q1 q2;exact e1 i n he hnl λe=>htn e.symm
       |false =>
        show scr n (scC P (zE G t))=scC _ (zE G t);rw[Ge];exact (dS hPL _).symm
     (rw[hTT] at hsim;refine hnext hG' hsim λy=>?_;have hmemo:∀ z:Nat×Obj',z∈xL (scr n) (v8 objs' n)↔∃ o1,(z.1,o1)∈objs'/\z.1≠n/\z.2=Tb n o1:=λz=>by constructor;{intro hz;obtain⟨o1,q1,q2⟩:=vQ (n:=z.1) (o:=z.2) _ hz;obtain⟨q3,q4⟩:=vR q1;exact⟨o1,q3,q4,q2⟩};{rintro⟨o1,q1,q2,q3⟩;have q4:=lC q1 q2;have:(z.1,Tb n o1)∈xL (scr n) (v8 objs' n):=lA (scr n) q4;rw[<-q3] at this;exact this});rw[uX,kJ,hmemo];unfold Vf;have hsc:∀ o1:Obj',Tb n (scO P o1)=scO (n::P) o1:=λo1=>Yv _ _ _ (Ge n P) o1;constructor
     ·rintro (⟨o1,q1,q2,q3⟩|q)
      ·rw[hin] at q1;obtain⟨o2,q4,q5⟩:=q1;simp only at q4 q5;refine⟨o2,q4,?_⟩;rw[hPP] at q5;rw[q3,q5,hsc,nV hPL,hPL];show _=scO (n::P) (match nqb n y.1 || yH y.1 P with|true=>X y.1|false=>o2);rw[show nqb n y.1=false by
        cases hx:nqb n y.1 with
        |false=>rfl| true=>exact absurd (y5 hx).symm q2]
       rfl
      {subst q;refine⟨x0,hin0,?_⟩;rw[hPL,nV hPL];show x=scO (n::P) (match nqb n n || yH n P with|true=>X n|false=>x0);rw[nqb_self,Us];show x=scO (n::P) (X n);rw[hXx,hx]}
     ·rintro⟨o2,q4,q5⟩;rw[hPL,nV hPL] at q5;by_cases hy:y.1=n;{right;have q6:y.2=scO (n::P) (match nqb n y.1 || yH y.1 P with|true=>X y.1|false=>o2):=q5;rw[hy,nqb_self,Us] at q6;have q7:y.2=scO (n::P) (X n):=q6;rw[hXx,hx] at q7;cases y;simp only at hy q7;rw[hy,q7]}
      ·left;have hne:nqb n y.1=false:=by
        cases hx:nqb n y.1 with
        |false=>rfl| true=>exact absurd (y5 hx).symm hy
       have q6:y.2=scO (n::P) (match nqb n y.1 || yH y.1 P with|true=>X y.1|false=>o2):=q5;rw[hne,r9] at q6;refine⟨scO P (match yH y.1 P with|true=>X y.1|false=>o2),?_,hy,?_⟩;{rw[hin];exact⟨o2,q4,by rw[hPP]⟩};{rw[q6,hsc]}
    |pure he hs1 hO =>
     have hPL:∀ m,yH m (PL (λe=>(L.setIfInBounds i true).getD e false) es)=yH m P:=λm=>by
      rw[<-hPP];refine Pp (λe m' hm'=>?_) m;rw[hB];have:nqb e i=false:=by
       cases hx:nqb e i with
       |false=>rfl| true=>have:=y5 hx;subst this;exact absurd hm' (Wi he)
      rw[this,Bool.or_false]
     have hsub:∀ m,yH m P=true->yH m (fK (anc ops) i es)=true:=λm hm=>by
      rw[<-hPP] at hm;obtain⟨e,q1,q2⟩:=fC.1 (w8 hm);refine s5 (Z5.2 ⟨e,q1,?_⟩);cases hx:((anc ops).getD e 0).testBit i with
      |false=>rfl| true =>
       obtain⟨oe,hoe,_⟩:=hlist e m q1 q2;exact absurd (vX hcl hoe (hcl e oe hoe q2) hx) hnl
     have hweak:∀ t v,Rep w S β v (zE (aV P G) t)->Rep w S β v (scC (fK (anc ops) i es) (zE G t)):=λt v hr=>by
      rw[qZ] at hr;cases hm:yH t P with
      |true=>rw[hm] at hr;exact nW hr| false =>
       rw[hm] at hr;have:=nW (P:=fK (anc ops) i es) hr;simp only at this;rw[Kj hsub] at this;exact this
     have hobj:∀ n o',(n,o')∈xL (scC (fK (anc ops) i es)) (gI (qY es) O0)->∃ o,(n,o)∈objs'/\(ObjAt w S β n o->ObjAt w S β n o')/\(∀ i,gK o i->gK o' i)/\∀ b,Own β n o' b->Own β n o b:=λn o' hm=>by
      obtain⟨o1,q1,q2⟩:=(aP _).1 hm;simp only at q1 q2;obtain⟨q3,q4⟩:=Wb q1;have hnn:yH n P=false:=by
       cases hx:yH n P with
       |false=>rfl| true =>
        rw[<-hPP] at hx;obtain⟨e,r1,_⟩:=fC.1 (w8 hx);exact absurd (mJ.2 ⟨e,r1⟩) q4
      refine⟨scO P o1,(hin _).2 ⟨o1,q3,by rw[hPP,hnn]⟩,λhat=>?_,λj hj=>?_,λb hb=>?_⟩;{rw[q2,<-Ki hsub];exact DR hat};{rw[q2,<-Ki hsub];exact Gf hj};{rw[q2] at hb;exact CK (qD hb)}
     (have hndl:((xL (scC (fK (anc ops) i es)) (gI (qY es) O0)).map Prod.fst).Nodup:=by rw[g8];exact (WH _ _).nodup hnd0);have hw2:=h.weak (τ':=λt=>scC (fK (anc ops) i es) (zE G t)) hweak hndl hobj;have hs2:pM false (xL (scC (fK (anc ops) i es)) (gI (qY es) O0)) ops o (λt=>scC (fK (anc ops) i es) (zE G t)) pvs[i]:=Yj (λt ht=>by rw[hagree t ht]) hs1;have hndst:∀ d,o.dst=some d->yH d P=false:=λd hd=>by
      cases hx:yH d P with
      |false=>rfl| true =>
       rw[<-hPP] at hx;obtain⟨e,q1,q2⟩:=fC.1 (w8 hx);obtain⟨oe,hoe,hde,_⟩:=hlist e d q1 q2;have hek:=(hes e d q1).1;have:=tA D.dst (by rw[bT hek];exact hoe) (by rw[bT hik];exact ho) hde hd;subst this;exact absurd q2 hnl
     have hTT:upd (zE (aV P G)) o.dst (scC P pvs[i])=zE (aV (PL (λe=>(L.setIfInBounds i true).getD e false) es) (put ⟨G,[]⟩ o.dst pvs[i]).tmps):=by
      funext t;rw[qZ,hG',hPL t];cases hd:o.dst with
      |none =>
       simp only[upd];rw[qZ];cases yH t P with
       |true=>rfl| false=>exact (dS hPL _).symm
      |some d =>
       simp only[upd];by_cases htd:t=d;{subst htd;rw[if_pos rfl,if_pos rfl,hndst t hd];exact (dS hPL _).symm}
       ·rw[if_neg htd,if_neg htd,qZ];cases yH t P with
        |true=>rfl| false=>exact (dS hPL _).symm
     (have hfin:∀ y,y∈objs'↔Vf es O0 X (λe=>(L.setIfInBounds i true).getD e false) y:=λy=>by rw[hin y];exact eT (λm=>by rw[hPP,hPL]) y);refine nN ho ?_;rcases aT hw2.tmp hs2 with⟨hw,hA⟩|⟨hw,hBB⟩
     {refine .inl ⟨hw,Xu hw2 hA λpv w' S' v hpv l hr=>?_⟩;refine hnext (S':=S') (β':=β) hG' ?_ hfin;rw[<-hTT];exact (h.go l).put o.dst hdo (nW (hr.le _ hpv))};{refine .inr ⟨hw,hnext (S':=S) (β':=β) hG' ?_ hfin⟩;rw[<-hTT];refine h.put o.dst hdo (nW ?_);rw[hBB];exact YR _ _ _}
theorem b8 {m n:Nat}{x:Obj'}(hne:m≠n):∀ (l:List (Nat×Obj')),yN (setO l m x) n=yN l n
 |[]=>by show (match nqb m n with|true=>some x|false=>none)=none;grind [y5]| (u,v)::r=>by
  unfold setO;cases hu:nqb u m with
  |true =>
   grind [nqb,yN]
  |false =>
   show (match nqb u n with|true=>some v|false=>yN (setO r m x) n)=(match nqb u n with|true=>some v|false=>yN r n);rw[b8 hne r]
section
variable {a:Act} {w:World} {S:Nat->Nat->Prop} {β:Bm}
theorem U3 (ops:List Oper)(l:List Bool):Region.ready .any ops.toArray l.toArray=Cy ops l:=by
 unfold Region.ready Cy;simp only[Fk];congr 1;funext i;have e1:l.toArray.getD i true=l.getD i true:=by simp_all
 rw[e1];congr 1;rw[List.getElem?_toArray];cases ops[i]? with
 |none=>rfl| some o =>
  simp only[JK,Pn];unfold Fn;simp_all
theorem Dw {o:Oper}{a:Act}{w:World}{K:Act->World->Prop}{Q Q':Exit->Act->World->Prop}(h:∀ e a w,Q e a w->Q' e a w)(hh:o.wp Pg a w K Q):o.wp Pg a w K Q':=by
 unfold Oper.wp at *;generalize (execOp a.eval o).run Pg w=r at *;cases r with
 |ok n w' =>
  cases n with
  |enter f args =>
   rw[Oper.upon_enter] at *;refine hh.mono λe w'' q=>?_;cases e with
   |returned v=>exact q| panicked c=>grind| outgrown=>obtain⟨a',w1,q⟩:=q;exact⟨a',w1,h _ _ _ q⟩
  |_=>exact hh
 |halt x w' =>
  cases x with
  |panic v=>exact h _ _ _ hh| _=>exact hh
theorem Yi {ops:Array Oper}{Q Q':Exit->Act->World->Prop}(h:∀ e a w,Q e a w->Q' e a w):∀ (f:Nat) (l:Array Bool) (a:Act) (w:World),wpAny Pg .any ops Q f l a w->wpAny Pg .any ops Q' f l a w
 |0,l,a,w,hh=>⟨hh.1,h _ _ _ hh.2⟩| f+1,l,a,w,hh=>⟨λe=>h _ _ _ (hh.1 e),λi hi=>by
  have:=wpOp_mono (λa w=>Yi h f _ a w) (hh.2 i hi);unfold wpOp at *;split;{grind}
  ·rename_i o e;rw[e] at this;simp only at this;split;{rename_i hw;rw[if_pos hw] at this;rcases this with q|⟨q1,a',w1,q2⟩;{grind [Dw]};{exact .inr ⟨q1,a',w1,h _ _ _ q2⟩}};grind⟩
theorem Ab {o:Oper}{τ:Nat->PV}(hc:HL o τ=true)(he:∀ x,Rep w S β (a.eval x) (ev τ x)){objs:List (Nat×Obj')}{K:PV->Prop}(hs:sop objs o.op (ev τ) K):∃ pv v,K pv/\Rep w S β v pv/\∀ w',(execOp a.eval o).run Pg w'=.ok (.value v) w':=by unfold HL at hc;split at hc;{rename_i x hop;rw[hop] at hs;exact⟨_,_,hs,he x,λw'=>by simp[execOp,hop]⟩};{rename_i x hop;rw[hop] at hs;have hx:=he x;split at hc;{rename_i n off e;rw[e] at hx;obtain⟨b,hβ,hv⟩:=kM hx;simp only[sop] at hs;rw[e] at hs;exact⟨_,_,hs,.ptr hβ,λw'=>by simp[execOp,hop,hv]⟩};grind};{rename_i t x i hop;rw[hop] at hs;have hx:=he x;split at hc;{rename_i n fs z n' off ht e;split at hc;{rename_i f hf;rw[e] at hx;obtain⟨b,hβ,hv⟩:=kM hx;obtain⟨o1,s1,g1⟩:=f;obtain⟨fields,fld,h1,h2,h3,h4,h5,h6⟩:=Ww ht hf;simp only[sop] at hs;rw[ht,e] at hs;simp only[hf] at hs;refine⟨_,_,hs,.ptr hβ,λw'=>?_⟩;have:=bC (w:=w') ht hf b off;simp[execOp,hop,hv,this]};grind};{rename_i n fs z n' s' i' off ht e;split at hc;{rename_i f hf;rw[e] at hx;obtain⟨b,hβ,hv⟩:=jK hx;obtain⟨o1,s1,g1⟩:=f;obtain⟨fields,fld,h1,h2,h3,h4,h5,h6⟩:=Ww ht hf;simp only[sop] at hs;rw[ht,e] at hs;simp only[hf] at hs;refine⟨_,_,hs,.aptr hβ,λw'=>?_⟩;have:=bC (w:=w') ht hf b (i' ()*s'+off);rw[iG] at this;simp[execOp,hop,hv,this]};grind};grind};grind
theorem iL {ops:List Oper}{l:List Bool}{τ:Nat->PV}:∀ {r:List Nat} {j:Nat},VB ops l τ r=some j->j∈r/\∃ o,ops[j]?=some o/\HL o τ=true/\XX o=true/\Region.free .any ops.toArray l.toArray j=true
 |[],j,h=>by cases h
 |i::r,j,h=>by
  unfold VB at h;cases ho:ops[i]? with
  |none =>
   rw[ho] at h;have:=iL h;grind
  |some o =>
   rw[ho] at h;simp only at h;cases hc:HL o τ&&XX o&&Region.free .any ops.toArray l.toArray i with
   |false =>
    rw[hc] at h;have:=iL h;grind
   |true =>
    grind
theorem JC {f:Nat->Prop}:∀ {r:List Nat},MI f r->∀ j,j∈r->f j
 |[],_,j,h=>by cases h
 |i::r,h,j,hj=>by rcases yG.1 hj with e|e;{rw[e];exact h.1};{exact JC h.2 j e}
theorem oW {o:Oper}(h:XX o=true)(y:Nat->Option Value):o.guard=none:=by grind [XX]
theorem Dh {o:Oper}{ps:PS}{K:PS->Prop}(hc:HL o (zE ps.tmps)=true)(h:pY o ps K):sop ps.objs o.op (ev (zE ps.tmps)) (λv=>K (put ps o.dst v)):=by unfold HL at hc;split at hc;{rename_i x hop;unfold pY at h;simp_all};{rename_i x hop;unfold pY at h;rw[hop] at h ⊢;exact h};{rename_i t x i hop;unfold pY at h;rw[hop] at h ⊢;exact h};grind
theorem QT {ops:List Oper}{K:PS->Prop}(hsel:Region.noSelect ops.toArray=true)(hdst:∀ o,o∈ops->nB N o=true):∀ (f:Nat) (l:List Bool) (ps:PS) {a:Act} {w:World} {S:Nat->Nat->Prop} {β:Bm},WU ops f l ps K->Sim w0 S0 K0 N (zE ps.tmps) ps.objs a w S β ->wpAny Pg .any ops.toArray (λe a w=>match e with|.normal=>∃ ps' S' β',K ps'/\Sim w0 S0 K0 N (zE ps'.tmps) ps'.objs a w S' β'|_=>False) f l.toArray a w
 |0,l,ps,a,w,S,β,hs,h=>by unfold WU at hs;unfold wpAny;rw[U3];grind| f+1,l,ps,a,w,S,β,hs,h=>by
  unfold WU at hs;cases hr:Cy ops l with
  |nil =>
   rw[hr] at hs;exact wpAny_done (by rw[U3,hr]) ⟨ps,S,β,hs,h⟩ _
  |cons i r =>
   (rw[hr] at hs;simp only at hs;have hd:∀ {o:Oper},o∈ops->∀ t,o.dst=some t->t<N:=λ{o} ho t ht=>by grind [nB]);cases ht:VB ops l (zE ps.tmps) (i::r) with
   |some j =>
    rw[ht] at hs;simp only at hs;obtain⟨hj,o,ho,hc,hg,hf⟩:=iL ht;unfold Ga at hs;rw[ho] at hs;simp only[hg] at hs;have hg':=oW hg (λ_=>none);obtain⟨pv,v,h1,h2,h3⟩:=Ab (w:=w) (S:=S) (β:=β) (a:=a) hc (λx=>h.eval x) (Dh hc hs);refine wpAny_take (i:=j) (oi:=o) (v:=v) (by grind) hsel hf (by grind [U3]) (λc a w q=>q.elim) (.inl ⟨by grind [Region.wanted],h3⟩) ?_;have:=QT hsel hdst f (l.set j true) _ h1 (w7 h o.dst (hd (z3 ho)) h2);grind
   |none =>
    rw[ht] at hs;simp only at hs;refine wpAny_all (rs:=i::r) (by rw[U3,hr]) (by simp) λj hj=>?_;have hs':=JC hs j hj;unfold Ga at hs';unfold wpOp;rw[List.getElem?_toArray];cases ho:ops[j]? with
    |none=>grind| some o =>
     rw[ho] at hs';simp only at hs' ⊢;cases hg:XX o with
     |false=>grind| true =>
      rw[hg] at hs';have hg':=oW hg (λ_=>none);rw[if_pos (by grind [Region.wanted])];refine .inl (sZ h hs' (hd (z3 ho)) λps' a' w' S' β' hK hsim=>?_);have:=QT hsel hdst f (l.set j true) ps' hK hsim;grind
end
theorem CZ {ms:List (Nat×Obj')}{T:List (Nat×PV)}{P:Prop}(h:Yu ms T P):KG T ms=true/\P:=by
 cases ms with
 |nil=>exact⟨rfl,h⟩| cons m r=>exact h
theorem HK {ops:List Oper}{ps:PS}{K:PS->Prop}(hs:DrawK ops ps K){Q:Exit->Act->World->Prop}(hdst:∀ o,o∈ops->nB N o=true)(hk:∀ ps' a' w' S' β',K ps'->Sim w0 S0 K0 N (zE ps'.tmps) ps'.objs a' w' S' β'->Q .normal a' w') {a:Act} {w:World} {S:Nat->Nat->Prop} {β:Bm} (h:Sim w0 S0 K0 N (zE ps.tmps) ps.objs a w S β):wpAny Pg .any ops.toArray Q ops.length (Array.replicate ops.length false) a w.drew:=by
 have hnone:∀ j,¬Lst (Array.replicate ops.length false) j:=by
  intro j hj;unfold Lst at hj;rcases kV j ops.length with h'|h'
  all_goals simp_all
 have hunl:∀ n,unl (Array.replicate ops.length false) n<=n:=by
  intro n;induction n with
  |zero=>exact yD _| succ n ih=>grind [unl]
 cases hs with
 |ef k es ps' hw hd he hm hs =>
  (obtain⟨S1,β1,h1⟩:=hw.sound h;have D:=YA hd;have hkl:k<=ops.length:=by rcases kV ops.length k with h'|h';{obtain⟨o,ho⟩:=D.full ops.length h';grind};omega);simp only[yP] at hm;simp only[Mv,yP,pA,Au] at he;obtain⟨he1,he2⟩:=he;have hinj:∀ {i j n},yR es i=some n->yR es j=some n->i=j:=λh1 h2=>ZV he1 h1 h2;have hek:∀ i n,yR es i=some n->i<k:=λi n h=>Qa (he2 _ (kZ h)).1.1;have hmkE:∀ i o x,ops[i]?=some o->uB o=some x->yR es i=none:=λi o x ho hmk=>by
   cases hl:yR es i with
   |none=>rfl| some n =>
    have:=(he2 _ (kZ hl)).1.2;grind
  have hanc:∀ i n j oj x,i<k->yR es i=some n->j<k->ops[j]?=some oj->uB oj=some (n,x)->((anc ops).getD i 0).testBit j=true:=λi n j oj x _ hi hj hoj hmk=>by have:=(he2 _ (kZ hi)).2 j hj;simp only[hoj,hmk,nqb_self,Bool.not_true,r9] at this;omega
  (obtain⟨pvs,Ob,T2,g1,g2,g34,g5,g6⟩:=BV _ 0 hs;obtain⟨g3,g4⟩:=CZ g34;have g6':∀ i o pv,(ops.take k)[i]?=some o->pvs[i]?=some pv->EfStep ops es (yI (ops.take k)) (gI (qY es) ps'.objs) i o (aH ((ops.take k).take i) (pvs.take i) (zE ps'.tmps)) pv (Ob i) (Ob (i+1)):=λi o pv q1 q2=>by grind);have hkt:(ops.take k).length=k:=by grind
  (have hms:=λx=>Qg (k:=k) (ops:=ops) (x:=x);have hndm:((ps'.objs++yI (ops.take k)).map Prod.fst).Nodup:=by rw[gP,W6];refine⟨h1.obj.nd,fG hm.1,?_⟩;intro x hx y hy e;subst e;obtain⟨⟨m,o⟩,q1,rfl⟩:=yZ.1 hx;obtain⟨⟨m',o'⟩,q2,e2⟩:=yZ.1 hy;have:=X4 hm.2 q2;simp only[yQ,yP] at this;exact (xY this.2 q1).1 e2.symm);have hop:∀ i,i<k->∃ o pv,ops[i]?=some o/\(ops.take k)[i]?=some o/\pvs[i]?=some pv:=λi hi=>by have q1:ops[i]?=some ops[i]:=gC oM;exact⟨_,_,q1,by grind,gC oM⟩
  have hnm:∀ i,i<=k->(Ob i).map Prod.fst=(ps'.objs++yI (ops.take i)).map Prod.fst:=by
   intro i;induction i with
   |zero=>intro _;rw[g2];simp[yI]| succ i ih =>
    (intro hi;obtain⟨o,pv,q1,q2,q3⟩:=hop i oM;have ih:=ih oM;have e:ops.take (i+1)=ops.take i++[o]:=by rw[tC,q1];rfl);rw[e,gV]
    cases g6' i o pv q2 q3 with
    |mk hmk _ hO=>rw[hO,gP,ih];grind [yI]| eff hmk _ h0 _ _ _ hO=>rw[hO,qM (yZ.2 ⟨_,xU h0,rfl⟩),ih];simp[yI,hmk]| pure hmk _ _ hO=>grind [yI]
  have hnd:∀ i,i<=k->((Ob i).map Prod.fst).Nodup:=λi hi=>by
   (rw[hnm i hi];have e:ops.take k=ops.take i++(ops.take k).drop i:=by have:=JE i (ops.take k);grind);rw[e,gV,<-Fj,gP] at hndm;grind
  obtain⟨X,hXd⟩:∃ X:Nat->Obj',∀ i n x,yR es i=some n->yN (Ob (i+1)) n=some x->X i=x:=⟨λi=>((yR es i).bind (yN (Ob (i+1)))).getD (.box []),λi n x q1 q2=>by grind⟩;have hX:∀ i n x,i<k->yR es i=some n->(n,x)∈Ob (i+1)->X i=x:=λi n x hi q1 q2=>hXd i n x q1 (uI (hnd (i+1) oM) q2);have hXin:∀ i n x0 x,yN (Ob i) n=some x0->(n,x)∈setO (Ob i) n x:=λi n x0 x q=>aO (yZ.2 ⟨_,xU q,rfl⟩);have hOb:∀ i,i<=k->∀ y,y∈Ob i↔EMem ops es k ps'.objs X (λj=>j<i) y:=by
   intro i;induction i with
   |zero =>
    intro _ y;rw[g2];unfold EMem;constructor;{grind};grind
   |succ i ih =>
    (intro hi y;obtain⟨o,pv,q1,q2,q3⟩:=hop i oM;have ih:=ih oM;have hL:∀ j,j<i+1↔j<i\/j=i:=λj=>by omega);cases g6' i o pv q2 q3 with
    | @mk d x hmk _ hO =>
     have hno:∀ j,j<k->yR es j=some d->¬j<i:=λj hj hje hji=>by
      (have hjo:ops[j]?=some ops[j]:=gC oM;have hL:∀ a oa,ops[a]?=some oa->a<j->nK (λb=>b<j) oa:=λa oa hoa haj e he hb=>by have:=D.back a oa hoa e he hb;omega);have:i<j:=vX (L:=λb=>b<j) hL hjo (λe he hb=>D.back j _ hjo e he hb) (hanc j d i o x hj hje oM q1 hmk);omega
     rw[hO,uX,kJ,EMem.mk q1 oM hmk (hmkE i o _ q1 hmk) hno hL y,ih y]
    | @eff n x x0 hmk he h0 _ _ _ hO =>
     have hxX:X i=x:=hX i n x oM he (by rw[hO];exact hXin _ _ _ _ h0);obtain⟨y1,y2⟩:=y;rw[hO,o4 (hnd i oM) (yZ.2 ⟨_,xU h0,rfl⟩),EMem.eff hinj q1 oM hmk he hL,ih,hxX]
    |pure hmk he _ hO=>rw[hO,EMem.pure q1 hmk he hL y,ih y]
  (rw[hkt] at g4;have hEM0:∀ y,y∈ps'.objs↔EMem ops es k ps'.objs X (Lst (Array.replicate ops.length false)) y:=λy=>by unfold EMem;constructor;{intro q;exact .inl ⟨.inl q,λ⟨j,_,_,q⟩=>hnone j q⟩};{rintro (⟨q|⟨j,oj,_,q,_⟩,_⟩|⟨j,_,_,q,_⟩);{exact q};{grind};grind});refine My (T0:=ps'.tmps) (T2:=T2) (O0:=ps'.objs) (O2:=Ob k) (pvs:=pvs) (es:=es) (ms:=yI (ops.take k)) (lim:=gI (qY es) ps'.objs) (X:=X) (Ob:=Ob) D hdst hk hkl (by rw[g1]) g4 g5 (hOb k (yD _)) (hnd k (yD _)) hms ?_ ?_ hinj hmkE hanc (λi hi=>hOb i oM) g6' hX hXin
   ops.length _ (by simp) (λj _ _=>hnone j) (λi o _ hl=>absurd hl (hnone i)) (hunl _) (h1.go (rF h1.ld.bnd)) hEM0 ⟨λj o t pv _ hl=>absurd hl (hnone j),λt _=>rfl⟩
  {intro n x hx;have q1:=X4 hm.2 hx;simp only[yQ,yP] at q1;exact⟨jL q1.2,qK q1.1,λm o q=>xY q1.2 q,λt ht=>KH ht (VY g3 hx)⟩};{intro n o q;obtain⟨q1,q2⟩:=Ug _ q;refine⟨xU q2,λi hi=>?_⟩;rw[s5 (Xv (kZ hi))] at q1;cases q1}
 |ap k es ps' hw hd he hs =>
  (obtain⟨S1,β1,h1⟩:=hw.sound h;have D:=YA hd;have hkl:k<=ops.length:=by rcases kV ops.length k with h'|h';{obtain⟨o,ho⟩:=D.full ops.length h';grind};omega);simp only[RI,yP,pA] at he;obtain⟨he1,he2⟩:=he;have hinj:∀ {i j n},yR es i=some n->yR es j=some n->i=j:=λh1 h2=>ZV he1 h1 h2;have hes:∀ e m,(e,m)∈es->e<k/\m<1000000/\yR es e=some m:=λe m hm=>by
   obtain⟨⟨q1,q2⟩,q3⟩:=he2 _ hm;refine⟨Qa q1,Qa q2,?_⟩;cases hl:yR es e with
   |none=>grind| some n=>simp only[hl] at q3;rw[y5 q3]
  (obtain⟨pvs,Ob,T2,g1,g2,g3,g5,g6⟩:=Am _ 0 hs;have g6':∀ i o pv,(ops.take k)[i]?=some o->pvs[i]?=some pv->ApStep ops es (anc ops) (gI (qY es) ps'.objs) i o (aH ((ops.take k).take i) (pvs.take i) (zE ps'.tmps)) pv (Ob i) (Ob (i+1)):=λi o pv q1 q2=>by grind);have hkt:(ops.take k).length=k:=by grind
  (have hop:∀ i,i<k->∃ o pv,ops[i]?=some o/\(ops.take k)[i]?=some o/\pvs[i]?=some pv:=λi hi=>by have q1:ops[i]?=some ops[i]:=gC oM;exact⟨_,_,q1,by grind,gC oM⟩);have hnm:∀ i,i<=k->(Ob i).map Prod.fst=ps'.objs.map Prod.fst:=by
   intro i;induction i with
   |zero=>grind| succ i ih =>
    intro hi;obtain⟨o,pv,q1,q2,q3⟩:=hop i oM;have ih:=ih oM;cases g6' i o pv q2 q3 with
    |app _ _ _ h0 _ _ _ _ _ hO=>rw[hO,qM (yZ.2 ⟨_,xU h0,rfl⟩),ih]| pure _ _ hO=>grind
  have hnd:∀ i,i<=k->((Ob i).map Prod.fst).Nodup:=λi hi=>by rw[hnm i hi];exact h1.obj.nd
  
  have hbef:∀ i,i<=k->∀ n,(∀ j,yR es j=some n->i<=j)->yN (Ob i) n=yN ps'.objs n:=by
   intro i;induction i with
   |zero=>grind| succ i ih =>
    intro hi n hn;obtain⟨o,pv,q1,q2,q3⟩:=hop i oM;have ih:=ih oM n (λj hj=>by grind);cases g6' i o pv q2 q3 with
    | @app m _ _ he' _ _ _ _ _ _ _ _ hO =>
     grind [b8]
    |pure _ _ hO=>grind
  have haft:∀ d i,i+d<=k->∀ n,(∀ j,yR es j=some n->j<i)->yN (Ob (i+d)) n=yN (Ob i) n:=by
   intro d;induction d with
   |zero=>grind| succ d ih =>
    intro i hi n hn;obtain⟨o,pv,q1,q2,q3⟩:=hop (i+d) oM;have ih:=ih i oM n hn;cases g6' (i+d) o pv q2 q3 with
    | @app m _ _ he' _ _ _ _ _ _ _ _ hO =>
     rw[show i+(d+1)=i+d+1 by omega,hO,b8 (λe=>?_),ih];grind
    |pure _ _ hO=>grind
  have hX:∀ i n x x0,i<k->yR es i=some n->yN (Ob i) n=some x0->Ob (i+1)=setO (Ob i) n x->(yN (Ob k) n).getD (.box [])=x:=λi n x x0 hi he' h0 hO=>by
   (have e1:yN (Ob (i+1)) n=some x:=by refine uI (hnd _ oM) ?_;rw[hO];exact aO (yZ.2 ⟨_,xU h0,rfl⟩));have e2:=haft (k-(i+1)) (i+1) oM n (λj hj=>by grind);rw[show i+1+(k-(i+1))=k by omega,e1] at e2;grind
  have hfinO:∀ y,y∈xL (scC (qY es)) (Ob k)↔Vf es ps'.objs (λn=>(yN (Ob k) n).getD (.box [])) (λj=>decide (j<k)) y:=λy=>by
   (have hPS:∀ m,yH m (PL (λj=>decide (j<k)) es)=yH m (qY es):=λm=>by rw[r8,fF,fF,fC,mJ];grind);rw[aP];unfold Vf;rw[hPS,JZ hPS];have hname:∀ n,(∃ o,(n,o)∈Ob k)↔∃ o,(n,o)∈ps'.objs:=λn=>by
    (have e:∀ l:List (Nat×Obj'),(∃ o,(n,o)∈l)↔n∈l.map Prod.fst:=λl=>by grind);grind
   cases hy:yH y.1 (qY es) with
   |true =>
    constructor;{rintro⟨o,q1,q2⟩;obtain⟨o',q3⟩:=(hname _).1 ⟨o,q1⟩;refine⟨o',q3,?_⟩;show y.2=scO (qY es) ((yN (Ob k) y.1).getD (.box []));rw[uI (hnd k (yD _)) q1];exact q2};{rintro⟨o,q1,q2⟩;obtain⟨o',q3⟩:=(hname _).2 ⟨o,q1⟩;refine⟨o',q3,?_⟩;have q2':y.2=scO (qY es) ((yN (Ob k) y.1).getD (.box [])):=q2;rw[uI (hnd k (yD _)) q3] at q2';exact q2'}
   |false =>
    (have hnn:∀ j,yR es j=some y.1->k<=j:=λj hj=>by grind [s5,mJ,kZ]);have hg:=hbef k (yD _) y.1 hnn
    constructor;{rintro⟨o,q1,q2⟩;rw[uI (hnd k (yD _)) q1] at hg;grind [xU]};grind [uI,xU]
  have hP0:PL (λi=>(Array.replicate ops.length false).getD i false) es=[]:=by
   (have:∀ m,m∉PL (λi=>(Array.replicate ops.length false).getD i false) es:=λm hm=>by obtain⟨e,_,q⟩:=fC.1 hm;exact hnone e q);exact List.eq_nil_iff_forall_not_mem.2 this
  rw[hkt] at g3;refine Mx (T0:=ps'.tmps) (T2:=T2) (O0:=ps'.objs) (O2:=xL (scC (qY es)) (Ob k)) (pvs:=pvs) (es:=es) (X:=λn=>(yN (Ob k) n).getD (.box [])) (Ob:=Ob) D hdst hk hkl (by rw[g1]) g3 g5 hfinO (by rw[g8];grind) hes hinj g6'
   (λi n x0 hi he' h0=>by rw[hbef i oM n (λj hj=>by grind)] at h0;exact xU h0) hX h1.obj.nd
   ops.length (Array.replicate ops.length false) (G:=ps'.tmps) (objs':=xL (scC []) ps'.objs) (S:=S1) (β:=β1) (by simp) (λj _ _=>hnone j) (λi o _ hl=>absurd hl (hnone i)) (hunl _) ?_ ?_ ⟨λj o t pv _ hl=>absurd hl (hnone j),λt _=>rfl⟩
  {refine ((h1.go (rF h1.ld.bnd))).weak (λt v hr=>?_) (by grind [g8]) λn o' hm=>?_;{rw[hP0,qZ];exact nW hr};{obtain⟨o1,q1,q2⟩:=(aP _).1 hm;simp only at q1 q2;exact⟨o1,q1,λh=>by rw[q2];exact DR h,λi h=>by rw[q2];exact Gf h,λb hb=>by rw[q2] at hb;exact qD hb⟩}};{intro y;rw[aP];unfold Vf;rw[hP0];rfl}
 |br σ inv good ps' hw hsel hs hks =>
  obtain⟨S1,β1,h1⟩:=hw.sound h;have:=QT hsel hdst ops.length _ ps' hs (h1.go (rF h1.ld.bnd));rw[List.toArray_replicate] at this;refine Yi (λe a w q=>?_) _ _ _ _ this;cases e with
  |normal=>obtain⟨ps2,S2,β2,⟨s,q0,q1⟩,q2⟩:=q;obtain⟨S3,β3,q3⟩:=q1.sound q2;grind
  |_=>exact q.elim
end
end Go.Proofs.YtaeaffgjdcigoaaGreat
