/- A part of the proof: PmP. -/
import Derived.Test.YtaeaffgjdcigoaaGreatG11
set_option linter.all false
namespace Go.Proofs.YtaeaffgjdcigoaaGreat
open Go
def nV (L:Nat->Prop) (o:Oper):Prop:=∀ e,e∈o.after.toList->Region.binds .any e=true->L e.on
theorem Gx {acc:List Nat}{o:Oper}{j:Nat}(h:(eU acc o).testBit j=true):∃ e,e∈o.after.toList/\Region.binds .any e=true/\(e.on=j\/(acc.getD e.on 0).testBit j=true):=by
 unfold eU at h;have gen:∀ (l:List Edge) (s:Nat),(l.foldl (λs e=>if Region.binds .any e then s ||| (2^e.on ||| acc.getD e.on 0) else s) s).testBit j=true->s.testBit j=true\/∃ e,e∈l/\Region.binds .any e=true/\(e.on=j\/(acc.getD e.on 0).testBit j=true):=by
  intro l;induction l with
  |nil=>grind| cons e l ih =>
   intro s h;simp only[Kk] at h;rcases ih _ h with h1|⟨e',h1,h2⟩
   ·by_cases hb:Region.binds .any e=true
    all_goals grind
   grind
 grind
theorem A7 {L:Nat->Prop}{ops:List Oper}(hL:∀ i o,ops[i]?=some o->L i->nV L o):∀ (r done:List Oper) (acc:List Nat),ops=done++r->acc.length=done.length ->(∀ i o j,i<acc.length->ops[i]?=some o->nV L o->(acc.getD i 0).testBit j=true->L j) ->∀ i o j,ops[i]?=some o->nV L o->((A8 r acc).getD i 0).testBit j=true->L j
 |[],done,acc,he,hl,h,i,o,j,hi,hE,hb=>by refine h i o j ?_ hi hE hb;grind| x::r,done,acc,he,hl,h,i,o,j,hi,hE,hb=>by
  refine A7 hL r (done++[x]) (acc++[eU acc x]) (by simp[he]) (by simp[hl]) ?_ i o j hi hE hb;intro i o j hlt hi hE hb;by_cases h1:i<acc.length
  ·(have:(acc++[eU acc x]).getD i 0=acc.getD i 0:=by grind);grind
  ·(have h2:i=acc.length:=by grind);subst h2
   (have:(acc++[eU acc x]).getD acc.length 0=eU acc x:=by simp);rw[this] at hb
   (have hx:ops[acc.length]?=some x:=by grind);rw[hx] at hi
   (cases hi;obtain⟨e,h3,h4,h5⟩:=Gx hb;have hLe:=hE e h3 h4;rcases h5 with h5|h5);{grind}
   ·by_cases h6:e.on<acc.length
    ·(have hlo:e.on<ops.length:=by grind);have ho:ops[e.on]?=some ops[e.on]:=j2 hlo
     grind
    ·(have:acc.getD e.on 0=0:=by simp only[fK];grind);grind
theorem uP {L:Nat->Prop}{ops:List Oper}(hL:∀ i o,ops[i]?=some o->L i->nV L o){i j:Nat}{o:Oper}(hi:ops[i]?=some o)(hE:nV L o)(hb:((anc ops).getD i 0).testBit j=true):L j :=
 A7 hL ops [] [] rfl rfl (λi o j h=>by simp at h) i o j hi hE hb
def unl (L:Array Bool):Nat->Nat
 |0=>0| n+1=>unl L n+(if L.getD n true=true then 0 else 1)
theorem Xq {L:Array Bool}{i:Nat}:∀ {n:Nat},n<=i->unl (L.setIfInBounds i true) n=unl L n
 |0,_=>rfl| n+1,h=>by simp only[unl];rw[Xq oM,getD_set_ne true oM]
theorem U6 {L:Array Bool}{i:Nat}(hi:L.getD i true=false):∀ {n:Nat},i<n->unl (L.setIfInBounds i true) n+1=unl L n
 |0,h=>by omega| n+1,h=>by
  simp only[unl];by_cases e:i=n
  ·(subst e;have hs:i<L.size:=by grind);rw[Xq (yD _),hi]
   simp_all
  {have:=U6 hi (n:=n) oM;rw[getD_set_ne true e];omega}
theorem Xp {L:Array Bool}:∀ {n:Nat},unl L n=0->∀ i,i<n->L.getD i true=true
 |0,_,i,h=>by omega| n+1,h0,i,h=>by simp only[unl] at h0;by_cases e:i=n;{grind};{exact Xp (n:=n) oM i oM}
theorem kQ {L:Array Bool}{i:Nat}(hi:i<L.size)(d e:Bool):L.getD i d=L.getD i e:=by simp[hi]
section
variable {w0:World} {S0:Nat->Nat->Prop} {K0:Nat->Prop} {N:Cx}
structure DrawOk (ops:List Oper) (k:Nat):Prop where
 dst:dE (ops.take k)=true
 look:∀ i o t j oj,i<k->j<k->ops[i]?=some o->ops[j]?=some oj->t∈fD ops o->oj.dst=some t->(j<i/\((anc ops).getD i 0).testBit j=true)\/(i<j/\((anc ops).getD j 0).testBit i=true)
 full:∀ i,i<k->∃ o,ops[i]?=some o
 back:∀ i o,ops[i]?=some o->∀ e,e∈o.after.toList->Region.binds .any e=true->e.on<i
 rest:∀ i j,i<ops.length->k<=i->j<i->((anc ops).getD i 0).testBit j=true
theorem YF {ops:List Oper}{k:Nat}(h:pC ops k=true):DrawOk ops k:=by simp only[pC,yK,gG,Se] at h;obtain⟨⟨⟨h1,h2⟩,h3⟩,h4⟩:=h;refine⟨h1,?_,?_,?_,?_⟩;{intro i o t j oj hi hj ho hoj ht hd;have:=h2 i hi;simp only[ho,gG,Se] at this;have:=this t ht j hj;simp only[hoj,hd,BEq.rfl,Bool.not_true,s6,Kq,yK,decide_eq_true_eq] at this;omega};{grind};{grind};grind
structure At (ops:List Oper) (k:Nat) (pvs:List PV) (τ0:Nat->PV) (L:Nat->Prop) (τ:Nat->PV):Prop where
 hit:∀ j o t pv,j<k->L j->ops[j]?=some o->pvs[j]?=some pv->o.dst=some t->τ t=pv
 miss:∀ t,(∀ j o,j<k->L j->ops[j]?=some o->o.dst≠some t)->τ t=τ0 t
theorem At.step {ops:List Oper}{k:Nat}{pvs:List PV}{τ0:Nat->PV}{L L':Nat->Prop}{τ:Nat->PV}(D:DrawOk ops k)(h:At ops k pvs τ0 L τ){i:Nat}{o:Oper}{pv:PV}(hi:i<k)(ho:ops[i]?=some o)(hp:pvs[i]?=some pv) (hL':∀ j,L' j↔L j\/j=i):At ops k pvs τ0 L' (upd τ o.dst pv):=by
 have hne:∀ j oj t,j<k->ops[j]?=some oj->oj.dst=some t->o.dst=some t->j=i:=λj oj t hj hoj hd hd' =>
  p6 D.dst (by grind) (by grind) hd hd'
 refine⟨λj oj t pv' hj hLj hoj hpj hd=>?_,λt ht=>?_⟩
 ·by_cases hji:j=i;{subst hji;rw[ho] at hoj;cases hoj;rw[hp] at hpj;cases hpj;simp[upd,hd]}
  ·have hLj':=((hL' j).1 hLj).resolve_right hji;rw[<-h.hit j oj t pv' hj hLj' hoj hpj hd];cases hd':o.dst with
   |none=>rfl| some d =>
    grind [upd]
 ·have h1:τ t=τ0 t:=h.miss t λj oj hj hLj hoj=>ht j oj hj ((hL' j).2 (.inl hLj)) hoj;rw[<-h1];cases hd':o.dst with
  |none=>rfl| some d =>
   have:t≠d:=λe=>ht i o hi ((hL' i).2 (.inr rfl)) ho (by grind);grind [upd]
theorem At.text {ops:List Oper}{k:Nat}{pvs:List PV}{τ0:Nat->PV}(D:DrawOk ops k)(hl:pvs.length=(ops.take k).length)(i:Nat)(hi:i<=k):At ops k pvs τ0 (λj=>j<i) (bY ((ops.take k).take i) (pvs.take i) τ0):=by
 have htt:(ops.take k).take i=ops.take i:=by grind
 have hdo:dE (ops.take i)=true:=by rw[<-htt];exact YE i D.dst
 refine⟨λj o t pv hj hLj ho hp hd=>?_,λt ht=>?_⟩;{rw[htt];exact Ky hdo (by rw[rT hLj];exact ho) (by grind) hd};grind [V0]
theorem At.same {ops:List Oper}{k:Nat}{pvs:List PV}{τ0:Nat->PV}{L L':Nat->Prop}{τ τ':Nat->PV}(D:DrawOk ops k)(hlen:k<=pvs.length)(h:At ops k pvs τ0 L τ)(h':At ops k pvs τ0 L' τ'){t:Nat}(ht:∀ j o,j<k->ops[j]?=some o->o.dst=some t->(L j/\L' j)\/(¬L j/\¬L' j)):τ t=τ' t:=by
 by_cases hx:∃ j o,j<k/\ops[j]?=some o/\o.dst=some t
 ·obtain⟨j,o,hj,ho,hd⟩:=hx;rcases ht j o hj ho hd with⟨h1,h2⟩|⟨h1,h2⟩;{have hp:pvs[j]?=some pvs[j]:=j2 oM;rw[h.hit j o t _ hj h1 ho hp hd,h'.hit j o t _ hj h2 ho hp hd]}
  ·have key:∀ j' o',j'<k->ops[j']?=some o'->o'.dst=some t->j'=j:=λj' o' hj' ho' hd' =>
    p6 D.dst (by grind) (by grind) hd' hd
   rw[h.miss t λj' o' hj' hL ho' hd'=>h1 (key j' o' hj' ho' hd' ▸ hL),h'.miss t λj' o' hj' hL ho' hd'=>h2 (key j' o' hj' ho' hd' ▸ hL)]
 {rw[h.miss t λj o hj _ ho hd=>hx ⟨j,o,hj,ho,hd⟩,h'.miss t λj o hj _ ho hd=>hx ⟨j,o,hj,ho,hd⟩]}
section
variable {a:Act} {w:World} {S:Nat->Nat->Prop} {β:Bm}
theorem Sim.newObjG {τ:Nat->PV}{objs:List (Nat×Obj')}{w':World}(h:Sim w0 S0 K0 N τ objs a w S β){n b:Nat}{o:Obj'}(hn:n<1000000)(hT:∀ t,wO n (τ t)=true)(hO:∀ {m x},(m,x)∈objs->m≠n/\cS n x)(l:Leads w S u7 w' S)(hb:w.heap.size<=b)(hb':b<w'.heap.size) (hat:ObjAt w' S (fL β n (some b)) n o) (hr:∀ i,¬jN o i:=by intro _ hi;exact hi):Sim w0 S0 K0 N τ (objs++[(n,o)]) a w' S (fL β n (some b)):=by
 have hmem:∀ {m x},(m,x)∈objs++[(n,o)]->((m,x)∈objs/\m≠n)\/(m=n/\x=o):=by grind
 have hg:=h.go l;refine⟨h.dfr,h.sz,hg.ld,λt=>(hg.tmp t).upd (hT t),⟨?_,?_,?_,?_⟩,?_,?_⟩;{rw[gH,YL];refine⟨h.obj.nd,by simp,?_⟩;grind};{intro m x hm;rcases hmem hm with⟨h1,h2⟩|⟨rfl,rfl⟩;{exact (hg.obj.at_ m x h1).upd h2 (hO h1).2};omega};{intro m x c hm hβ;rcases hmem hm with⟨h1,h2⟩|⟨rfl,rfl⟩;{exact hg.obj.un m x c h1 (vI h2 hβ)};{have hβ:=y7 hr hβ;rw[xB] at hβ;cases hβ;exact⟨λi hS=>by have:=h.ld.bnd b i hS;omega,hb'⟩}};{intro m x m' x' c hm hm' hβ hβ';rcases hmem hm with⟨h1,h2⟩|⟨rfl,rfl⟩;{rcases hmem hm' with⟨h3,h4⟩|⟨rfl,rfl⟩;{exact hg.obj.inj _ _ _ _ c h1 h3 (vI h2 hβ) (vI h4 hβ')};{have hβ':=y7 hr hβ';rw[xB] at hβ';cases hβ';have:=(h.obj.un m x b h1 (vI h2 hβ)).2;omega}};{rcases hmem hm' with⟨h3,h4⟩|⟨rfl,rfl⟩;{have hβ:=y7 hr hβ;rw[xB] at hβ;cases hβ;have:=(h.obj.un m' x' b h3 (vI h4 hβ')).2;omega};{rfl}}};{intro m x c hm hβ;rcases hmem hm with⟨h1,h2⟩|⟨rfl,rfl⟩;{exact h.own m x c h1 (vI h2 hβ)};{have hβ:=y7 hr hβ;rw[xB] at hβ;cases hβ;have:=h.ld.size;omega}};{intro m x hm hb2;rcases hmem hm with⟨h1,h2⟩|⟨rfl,rfl⟩;{rw[v6 h2];exact h.keep m x h1 hb2};{omega}}
theorem VT {d:Nat}{t:TypeId}(hno:(ty t).isNo=false):wC d (ty t).zero=true:=by
 cases hty:ty t with
 |no=>grind [Ty.isNo]| sc z=>obtain⟨_,_,zv',_,_,_,_,_,_,h7,_⟩:=Xs hty;rw[h7];simp only[Ty.zero,wC,yS,Hb];unfold wP;split <;> rfl
 |st n fs z =>
  obtain⟨_,_,zs,_,_,_,_,_,_,h7,_⟩:=Xr hty;rw[h7];simp only[Ty.zero];generalize zs.toList=l;induction l with
  |nil=>rfl| cons x l ih=>simp only[jB,wC,yS,yK];exact⟨by unfold wP;split <;> rfl,ih⟩
 |arr len n ag z =>
  obtain⟨_,_,zs,_,_,_,_,_,_,_,_,_,_,h7⟩:=iW hty;rw[h7];simp only[Ty.zero];generalize zs.toList=l;induction l with
  |nil=>rfl| cons x l ih=>simp only[jB,wC,yS,yK];exact⟨by unfold wP;split <;> rfl,ih⟩
 |sli n b z=>rfl
theorem LK {o:Oper}{d:Nat}{x:Obj'}{τ:Nat->PV}{objs:List (Nat×Obj')}{Km:Act->World->Prop}{Q:Exit->Act->World->Prop}(hm:uA o=some (d,x))(hd:nQ N o=true)(h:Sim w0 S0 K0 N τ objs a w S β) (hn:d<1000000) (hT:∀ t,wO d (τ t)=true) (hO:∀ {m y},(m,y)∈objs->m≠d/\cS d y) (hk:∀ a' w' β',Sim w0 S0 K0 N (upd τ o.dst (.ptr d 0)) (objs++[(d,x)]) a' w' S β'->Km a' w'):o.wp Pg a w Km Q:=by
 obtain⟨hg,hod,t,hop,hno,rfl⟩:=tK hm;obtain⟨i,zv,h1,h2,h3⟩:=GG (w:=w) (S:=S) (β:=β) hno;have hz:wC d (ty t).zero=true:=VT hno;have l:=qG (w:=w) h.ld.bnd (.cells zv.cells t);have hnw:=h.newObjG (w':=w.alloc (.cells zv.cells t)) (b:=w.heap.size) (o:=.box (ty t).zero) hn hT hO l (yD _) (by simp) ⟨w.heap.size,zv.cells,t,xB,heap_alloc_new w _,h3.1,λj hj =>
  ((h3.2 j hj).evo (l.evo h.ld.bnd) (l.subs h.ld.bnd)).upd (xR rfl hz j)⟩
 refine kT (v:=.pointer (some ⟨w.heap.size,0,none⟩)) (w':=w.alloc (.cells zv.cells t)) ?_ ?_;{simp[execOp,hop,Instr.alloc,pJ h1 h2,newVar,newRow]};{exact hk _ _ _ (hnw.put o.dst (nP hd) (.ptr xB))}
theorem Sim.perm {τ:Nat->PV}{objs objs':List (Nat×Obj')}(h:Sim w0 S0 K0 N τ objs a w S β)(hm:∀ x,x∈objs'↔x∈objs)(hnd:(objs'.map Prod.fst).Nodup):Sim w0 S0 K0 N τ objs' a w S β :=
 ⟨h.dfr,h.sz,h.ld,h.tmp,⟨hnd,λn o hx=>h.obj.at_ n o ((hm _).1 hx),λn o b hx=>h.obj.un n o b ((hm _).1 hx),λn o m o' b hx hy=>h.obj.inj n o m o' b ((hm _).1 hx) ((hm _).1 hy)⟩,
  λn o b hx=>h.own n o b ((hm _).1 hx),λn o hx=>h.keep n o ((hm _).1 hx)⟩
theorem uB:∀ {l:List (Nat×Obj')} {n:Nat} {o:Obj'},(l.map Prod.fst).Nodup->(n,o)∈l->yO l n=some o
 |[],n,o,_,h=>by simp at h| (u,v)::r,n,o,hnd,h=>by simp only[jB,mI] at hnd;simp only[yI] at h;unfold yO;rcases h with h|h;{simp_all};{have:u≠n:=λe=>hnd.1 (by grind);rw[H4 this];exact uB hnd.2 h}
end
theorem Xy {o:Oper}{τ:Nat->PV}{objs:List (Nat×Obj')}{a:Act}{w:World}{S:Nat->Nat->Prop}{β:Bm}{K:PV->Prop}{Km:Act->World->Prop}{Q:Exit->Act->World->Prop}(h:Sim w0 S0 K0 N τ objs a w S β)(hs:bL false objs o.op (ev τ) K) (hk:∀ pv w' S' v,K pv->Leads w S u7 w' S'->Rep w' S' β v pv->Km (a.put o.dst v) w'):o.wp Pg a w Km Q:=by
 unfold bL at hs;cases hi:YC o.op with
 |false=>grind [ZM]| true =>
  rw[hi] at hs;obtain⟨c',hc1,hc2⟩:=Jn hi;obtain⟨c,b,x,t,tx,n,bb,z,hop,h1,h2,h3,h4,h5,h6⟩:=Kh hs;grind [Ke]
theorem KI {nb:Bool}{o:Oper}{τ:Nat->PV}{objs:List (Nat×Obj')}{a:Act}{w:World}{S:Nat->Nat->Prop}{β:Bm}{K:PV->Prop}{Km:Act->World->Prop}{Q:Exit->Act->World->Prop}(h:Sim w0 S0 K0 N τ objs a w S β)(hs:bL nb objs o.op (ev τ) K) (hk:∀ pv w' S' β' v,K pv->Sim w0 S0 K0 N τ objs a w' S' β'->Rep w' S' β' v pv->Km (a.put o.dst v) w'):o.wp Pg a w Km Q:=by
 have fin:bL false objs o.op (ev τ) K->o.wp Pg a w Km Q:=λhs=>Xy h hs λpv w' S' v hK l hr=>hk pv w' S' β v hK (h.go l) hr;cases nb with
 |false=>grind| true =>
  cases hi:YC o.op with
  |true=>grind [bL]| false =>
   (have hs':oG objs o.op (ev τ) K:=by grind [bL]);rcases n7 hs' with⟨h1,h2⟩|⟨c,f,g,caps,h1,h2,h3,h4,h5⟩
   {grind [bL]};{rcases h5.h with⟨args',r,q1,q2,q3,q4⟩|⟨_,hn,cargs,kept,r,q1,q2,q3,q4,q5,q6,q7,q8,q9,q10⟩;{exact nT h1 h2 h h4 ⟨args',r,q1,q2,q3,q4⟩ λpv w' S' v hK l hr=>hk pv w' S' β v hK (h.go l) hr};grind [JY]}
theorem nW {ops:List Oper}{Q:Exit->Act->World->Prop}{i:Nat}{o:Oper}{a:Act}{w:World}{Km:Act->World->Prop}(ho:ops[i]?=some o) (h:(Region.wanted o (yielded ops.toArray a.tmps)=true/\o.wp Pg a w Km Q)\/(Region.wanted o (yielded ops.toArray a.tmps)=false/\Km (a.put o.dst undef) w)):wpOp Pg ops.toArray Q i Km a w:=by unfold wpOp;grind
def Lst (L:Array Bool) (j:Nat):Prop:=L.getD j false=true
theorem dK {L:Array Bool}{i:Nat}(hi:i<L.size)(j:Nat):Lst (L.setIfInBounds i true) j↔Lst L j\/j=i:=by unfold Lst;by_cases e:j=i;{simp_all};{rw[getD_set_ne false (Ne.symm e)];simp[e]}
theorem FP {ops:List Oper}{k:Nat}(D:DrawOk ops k){Q:Exit->Act->World->Prop}{K:PS->Prop}(hdst:∀ o,o∈ops->nQ N o=true)(hk:∀ ps' a' w' S' β',K ps'->Sim w0 S0 K0 N (zF ps'.tmps) ps'.objs a' w' S' β'->Q .normal a' w'):∀ (fuel m:Nat) (L:Array Bool) {ps:PS} {a:Act} {w:World} {S:Nat->Nat->Prop} {β:Bm},k<=m->m<=ops.length->L.size=ops.length->(∀ j,j<ops.length->(Lst L j↔j<m))->ops.length<=m+fuel ->Sim w0 S0 K0 N (zF ps.tmps) ps.objs a w S β->jZ ops (ops.drop m) ps K->wpAny Pg .any ops.toArray Q fuel L a w:=by
 intro fuel;induction fuel with
 |zero =>
  (intro m L ps a w S β hkm hm hsz hL hf h hs;have hme:m=ops.length:=by omega);have hr:Region.ready .any ops.toArray L=[]:=by
   (rw[List.eq_nil_iff_forall_not_mem];intro i hi;obtain⟨h1,o,h2,_⟩:=mem_ready.1 hi;have hlt:i<ops.length:=by grind);have:=(hL i hlt).2 oM
   unfold Lst at this;grind
  refine⟨hr,?_⟩;rw[hme,wD] at hs;exact hk _ _ _ _ _ hs h
 |succ fuel ih =>
  (intro m L ps a w S β hkm hm hsz hL hf h hs;have closed:∀ i o,ops[i]?=some o->Lst L i->nV (Lst L) o:=by intro i o ho hi e he hb;have hlt:=(xP.1 ho).1;have h1:=D.back i o ho e he hb;grind);refine⟨λhr=>?_,λi hi=>?_⟩
  ·by_cases hme:m=ops.length;{rw[hme,wD] at hs;exact hk _ _ _ _ _ hs h}
   ·(exfalso;have hlt:m<ops.length:=by omega);have hin:m∈Region.ready .any ops.toArray L:=by
     refine mem_ready.2 ⟨?_,ops[m],by grind,λe he hb=>?_⟩
     ·rw[kQ oM true false];cases hx:L.getD m false with
      |false=>rfl| true=>have:=(hL m hlt).1 hx;omega
     {have h1:=D.back m _ (j2 hlt) e (by grind) hb;exact (hL e.on oM).2 h1}
    grind
  ·(obtain⟨h1,o,h2,h3⟩:=mem_ready.1 hi;have ho:ops[i]?=some o:=by grind);have hlt:i<ops.length:=(xP.1 ho).1
   (have him:m<=i:=by rcases qW i m with h'|h';{have:=(hL i hlt).2 h';unfold Lst at this;grind};omega);have hie:i=m:=by rcases qW m i with h'|h';{have hb:=D.rest i m hlt oM h';have:=uP closed ho (λe he hb=>h3 e (by grind) hb) hb;grind};{omega}
   (subst hie;have hdrop:ops.drop i=o::ops.drop (i+1):=by grind [List.drop_eq_getElem_cons]);rw[hdrop] at hs
   (simp only[jZ] at hs;have hL2:∀ j,j<ops.length->(Lst (L.setIfInBounds i true) j↔j<i+1):=by grind [dK]);have hdo:=nP (hdst o (zX ho))
   refine nW ho ?_;rcases aH h.tmp hs with⟨hw,hA⟩|⟨hw,hB⟩;{exact .inl ⟨hw,sK h hA hdo λps' a' w' S' β' hK hsim=>by obtain⟨ps'',hK',hsim'⟩:=Yv hsim hK;grind⟩};{exact .inr ⟨hw,ih (i+1) _ oM oM (by grind) hL2 oM (w6 h o.dst hdo (YX _ _ _)) hB⟩}
theorem Z9 {m n:Nat}{o:Obj'}:∀ {l:List (Nat×Obj')},yO (uD l m) n=some o->n≠m/\yO l n=some o
 |[],h=>by grind [uD,yO]| (u,v)::r,h=>by
  unfold uD at h;cases hu:nqb u m with
  |true =>
   rw[hu] at h;obtain⟨h1,h2⟩:=Z9 h;grind [yO,nqb]
  |false =>
   rw[hu] at h;unfold yO at h ⊢;cases hx:nqb u n with
   |true =>
    grind
   |false =>
    rw[hx] at h;exact Z9 h
theorem QR {m n:Nat}{o x:Obj'}(hne:m≠n):∀ {l:List (Nat×Obj')},yO l n=some o->yO (setO l m x) n=some o
 |[],h=>by grind [yO]| (u,v)::r,h=>by
  unfold setO;cases hu:nqb u m with
  |true =>
   grind [yO,nqb]
  |false =>
   unfold yO at h ⊢;show (match nqb u n with|true=>some v|false=>yO (setO r m x) n)=some o;cases hx:nqb u n with
   |true=>grind| false=>rw[hx] at h;exact QR hne h
theorem iP:∀ {l:List Oper} {x:Nat×Obj'},x∈yL l↔∃ (i:Nat) (o:Oper),l[i]?=some o/\uA o=some x
 |[],x=>by simp[yL]| o::r,x=>by have ih:=@iP r x;unfold yL;constructor;{intro h;split at h;{rename_i y hy;rcases yI.1 h with h|h;{exact⟨0,o,rfl,by grind⟩};{obtain⟨i,o',q1,q2⟩:=ih.1 h;exact⟨i+1,o',by grind,q2⟩}};{obtain⟨i,o',q1,q2⟩:=ih.1 h;exact⟨i+1,o',by grind,q2⟩}};grind
theorem QJ {ops:List Oper}{k:Nat}{x:Nat×Obj'}:x∈yL (ops.take k)↔∃ i o,i<k/\ops[i]?=some o/\uA o=some x:=by rw[iP];constructor;{grind};{rintro⟨i,o,q0,q1,q2⟩;exact⟨i,o,by grind,q2⟩}
theorem Wd {ps:PS}:∀ {l:List (Nat×Obj')} {n:Nat} {o:Obj'},QI ps l=true->(n,o)∈l->yV n ps=true
 |[],n,o,_,h=>by simp at h| (m,x)::r,n,o,hm,h=>by simp only[QI,yK] at hm;rcases yI.1 h with h|h;{grind};{exact Wd hm.2 h}
theorem Uo {T:List (Nat×PV)}:∀ {l:List (Nat×Obj')} {n:Nat} {o:Obj'},Jd T l=true->(n,o)∈l->mfT n T=true
 |[],n,o,_,h=>by simp at h| (m,x)::r,n,o,hm,h=>by simp only[Jd,yK] at hm;rcases yI.1 h with h|h;{grind};{exact Uo hm.2 h}
theorem Je {n t:Nat}(ht:t≠n):∀ {T:List (Nat×PV)},mfT n T=true->wO n (zF T t)=true
 |[],_=>rfl| (u,v)::r,h=>by
  simp only[mfT,yK] at h;unfold zF;cases hu:nqb u t with
  |true =>
   grind [xC]
  |false=>exact Je ht h.2
theorem Uw:∀ l:List PV,vG (λv=>v) l=l
 |[]=>rfl| v::r=>by unfold vG;rw[Uw r]
theorem Us:∀ l:List (Nat×PV),uI (λv=>v) l=l
 |[]=>rfl| (t,v)::r=>by unfold uI;rw[Us r]
theorem Uu:∀ l:List (PV×(Unit->Nat)),sP (λv=>v) l=l
 |[]=>rfl| (v,k)::r=>by unfold sP;rw[Uu r]
theorem H5 (o:Obj'):x9 (λv=>v) o=o:=by
 cases o with
 |box cs=>simp only[x9,Uw]| mat s r q=>simp only[x9,Uu]| _=>rfl
theorem Ut:∀ l:List (Nat×Obj'),xO (λv=>v) l=l
 |[]=>rfl| (n,o)::r=>by
  (have e:xO (λv=>v) ((n,o)::r)=(n,x9 (λv=>v) o)::xO (λv=>v) r:=by cases o <;> rfl);rw[e,Ut r,H5]
theorem UL {n:Nat}{o:Obj'}:∀ (M:List Nat) {l:List (Nat×Obj')},yO (gC M l) n=some o->yG n M=false/\yO l n=some o
 |[],l,h=>⟨rfl,h⟩| m::r,l,h=>by unfold gC at h;obtain⟨h1,h2⟩:=UL r h;grind [Z9,yG,xC]
theorem aC:∀ {l:List (Nat×Obj')} {n:Nat} {x:Obj'},n∈l.map Prod.fst->(n,x)∈setO l n x
 |(u,v)::r,n,x,hn=>by
  unfold setO;cases hu:nqb u n with
  |true=>grind| false =>
   (have hne:u≠n:=λe=>by simp_all);have hn':n∈r.map Prod.fst:=by grind
   exact xQ _ (aC hn')
 |[],n,x,hn=>by grind
theorem Zb:∀ {l:List (Nat×Obj')} {n m:Nat} {x o:Obj'},m≠n->(m,o)∈l->(m,o)∈setO l n x
 |(u,v)::r,n,m,x,o,hne,h=>by
  unfold setO;cases hu:nqb u n with
  |true =>
   simp_all
  |false =>
   rcases yI.1 h with h|h;{grind};{exact xQ _ (Zb hne h)}
 |[],n,m,x,o,hne,h=>by simp at h
theorem Zc {l:List (Nat×Obj')}{n m:Nat}{x o:Obj'}(hnd:(l.map Prod.fst).Nodup)(hn:n∈l.map Prod.fst):(m,o)∈setO l n x↔(m=n/\o=x)\/(m≠n/\(m,o)∈l) :=
 ⟨xW hnd hn,λh=>by rcases h with⟨rfl,rfl⟩|⟨h1,h2⟩;{exact aC hn};grind [Zb]⟩
theorem gM:∀ (l r:List Oper),yL (l++r)=yL l++yL r
 |[],r=>rfl| o::l,r=>by
  simp only[Yh,yL];cases uA o with
  |none=>exact gM l r| some x=>simp only[Yh,gM l r]
theorem jV:∀ {es:List (Nat×Nat)} {i n:Nat},yT es i=some n->(i,n)∈es
 |(a,b)::r,i,n,h=>by
  unfold yT at h;cases ha:nqb a i with
  |true =>
   simp_all
  |false=>rw[ha] at h;exact xQ _ (jV h)
 |[],i,n,h=>by grind [yT]
theorem pU:∀ {l:List Nat} {n:Nat},n∈l->yG n l=true
 |m::r,n,h=>by unfold yG;rcases yI.1 h with rfl|h;{simp};{rw[pU h];simp}
 |[],n,h=>by simp at h
theorem Xz:∀ {es:List (Nat×Nat)} {i n:Nat},(i,n)∈es->n∈kL es
 |(a,b)::r,i,n,h=>by unfold kL;rcases yI.1 h with h|h;{grind};{exact xQ _ (Xz h)}
 |[],i,n,h=>by simp at h
theorem Z0:∀ {es:List (Nat×Nat)} {i j n:Nat},Ja (kL es)=true->yT es i=some n->yT es j=some n->i=j
 |(a,b)::r,i,j,n,hd,h1,h2=>by
  (unfold kL Ja at hd;simp only[yK,Vq] at hd;unfold yT at h1 h2;have bad:∀ {x},yT r x=some b->False:=λh=>by rw[pU (Xz (jV h))] at hd;grind);cases ha:nqb a i with
  |true =>
   grind [xC]
  |false =>
   rw[ha] at h1;cases hb:nqb a j with
   |true=>grind| false=>rw[hb] at h2;exact Z0 hd.2 h1 h2
 |[],i,j,n,_,h1,_=>by grind [yT]
theorem Wc:∀ {ms:List (Nat×Obj')} {cs:List PV},QG ms cs=true->∀ d y,(d,y)∈ms->wC d cs=true
 |(a,b)::r,cs,h,d,y,hm=>by unfold QG at h;simp only[yK] at h;rcases yI.1 hm with hm|hm;{grind};{exact Wc h.2 d y hm}
 |[],cs,h,d,y,hm=>by grind
theorem Ze {ops:List Oper}{o:Oper}{T:List (Nat×PV)}{τ:Nat->PV}(hg:o.guard=none)(h:∀ t,t∈fD ops o->zF T t=τ t):∀ x,x∈o.op.operands.toList->ev (zF T) x=ev τ x:=λx hx=>by
 cases x with
 |tmp t =>
  show zF T t=τ t;refine h t ?_;unfold fD;grind
 |_=>rfl
inductive EfStep (ops:List Oper) (es:List (Nat×Nat)) (ms lim:List (Nat×Obj')) (i:Nat) (o:Oper) (τ:Nat->PV) (pv:PV) (O O':List (Nat×Obj')):Prop
 |mk {d x} (h:uA o=some (d,x)) (hp:pv=.ptr d 0) (hO:O'=O++[(d,x)])
 |eff {n x x0} (hm:uA o=none) (he:yT es i=some n) (h0:yO O n=some x0) (hfree:∀ d y,(d,y)∈ms->cS d x) (hg:o.guard=none)
   (hgo:∀ (T':List (Nat×PV)) (O1:List (Nat×Obj')),(∀ t,t∈fD ops o->zF T' t=τ t)->yO O1 n=some x0->nD o ⟨T',O1⟩ (λp=>zF p.tmps=upd (zF T') o.dst pv/\p.objs=setO O1 n x)) (hO:O'=setO O n x)
 |pure (hm:uA o=none) (he:yT es i=none) (h:pH true lim ops o τ pv) (hO:O'=O)
theorem Pp {ops:List Oper}{ms:List (Nat×Obj')}{o:Oper}{n:Nat}{T:List (Nat×PV)}{O:List (Nat×Obj')}{K:PV->Obj'->Prop}(h:Nq ms o n T O K):∃ pv x x0,K pv x/\yO O n=some x0/\(∀ d y,(d,y)∈ms->cS d x)/\o.guard=none /\ ∀ (T':List (Nat×PV)) (O1:List (Nat×Obj')),(∀ t,t∈fD ops o->zF T' t=zF T t)->yO O1 n=some x0->nD o ⟨T',O1⟩ (λp=>zF p.tmps=upd (zF T') o.dst pv/\p.objs=setO O1 n x):=by
 unfold Nq at h;cases hg:o.guard with
 |some g=>grind| none =>
 rw[hg] at h;simp only at h;cases hop:o.op with
 |store t a v =>
  rw[hop] at h;simp only at h;cases hd:o.dst with
  |some d=>grind| none =>
   rw[hd] at h;simp only at h;cases hea:ev (zF T) a with
   |ptr m off =>
    rw[hea] at h;simp only at h;cases hmn:nqb m n with
    |false=>grind| true =>
     rw[hmn] at h;simp only at h;have:=xC hmn;subst this;cases hgo:yO O m with
     |none=>grind| some x0 =>
      rw[hgo] at h;cases x0 with
      |arr s e=>grind| log s e=>grind| lent s e=>grind| mat s r q=>grind| mp t k=>grind| box cs =>
       simp only at h;split at h;{rename_i hc;simp only[yK] at hc;refine⟨_,_,_,h,rfl,λd y hy=>Wc hc.2 d y hy,rfl,λT' O1 hT hO=>?_⟩;have hev:=Ze hg hT;have e1:ev (zF T') a=.ptr m off:=(hev a (by grind [Op.operands])).trans hea;have e2:ev (zF T') v=ev (zF T) v:=hev v (by grind [Op.operands]);have hc':=hc.1;unfold nD;simp only[hop,e1,e2,hO];rw[show (nqb (yR (ev (zF T) v)).length (ty t).cells&&nle (off+(ty t).cells) cs.length&&nlt 0 (ty t).cells&&yS mO (yR (ev (zF T) v)))=true by grind];simp only[hd,put];refine⟨?_,?_⟩ <;> first|rfl|trivial};grind
   |_=>rw[hea] at h;exact h.elim
 |call c =>
  rw[hop] at h;simp only at h;cases hcl:c.callee with
  |value g =>
   rw[hcl] at h;simp only at h;obtain⟨f,caps,hn,cargs,m,x,r,x',E1,E2,E3,E4,E5,E6,E7,E8,E9,E10,E11⟩:=h.h;refine⟨_,_,_,E11,E5,λd y _=>?_,rfl,λT' O1 hT hO=>?_⟩
   ·cases x' with
    |box cs=>exact V7 d E7| arr s e=>trivial| log s e=>trivial| lent s e=>trivial| mp t k=>trivial| mat s r q =>
     cases q with
     |nil=>rfl| cons x y=>cases E7
   {have hev:=Ze hg hT;have hargs:∀ x,x∈c.args.toList->ev (zF T') x=ev (zF T) x:=λx hx=>hev x (by grind [Op.operands,Call.operands]);have hf:ev (zF T') g=ev (zF T) g:=hev g (by grind [Op.operands,Call.operands]);subst E4;unfold nD;simp only[hop,hcl];refine⟨⟨T',O1⟩,.refl _,f,caps,by grind,.inr ⟨hn,cargs,[(m,x)],[],r,[(m,x')],[],?_,E3,⟨⟨by grind [W0],YH E6⟩,trivial⟩,rfl,rfl,?_,rfl,rfl,E8,E9,E10,?_,?_⟩⟩;{grind [pY]};{show ((bA x'&&H2 [m] x')&&true)=true;grind [YH,D8]};{rw[w7];show upd (zF (uI (λv=>v) T')) o.dst _=_;rw[Us]};{rw[fX];show setO (xO (λv=>v) O1) (hn m) (x9 (ren hn) x')++[]=_;rw[Ut,kN,W0 E7]}}
  |_=>grind
 |_=>rw[hop] at h;exact h.elim
theorem AI {ops:List Oper}{es:List (Nat×Nat)}{ms lim:List (Nat×Obj')}{K:List (Nat×PV)->List (Nat×Obj')->Prop}:∀ (l:List Oper) (i:Nat) {T:List (Nat×PV)} {O:List (Nat×Obj')},Yb ops es ms lim l i T O K ->∃ (pvs:List PV) (Ob:Nat->List (Nat×Obj')) (T':List (Nat×PV)),pvs.length=l.length/\Ob 0=O/\K T' (Ob l.length)/\zF T'=bY l pvs (zF T) /\ ∀ j o pv,l[j]?=some o->pvs[j]?=some pv->EfStep ops es ms lim (i+j) o (bY (l.take j) (pvs.take j) (zF T)) pv (Ob j) (Ob (j+1))
 |[],i,T,O,h=>⟨[],λ_=>O,T,rfl,rfl,h,rfl,λj o pv h=>by simp at h⟩| o::r,i,T,O,h=>by
  obtain⟨pv,O1,T1,h1,ht1,hst⟩:∃ pv O1 T1,Yb ops es ms lim r (i+1) T1 O1 K/\zF T1=upd (zF T) o.dst pv/\EfStep ops es ms lim i o (zF T) pv O O1:=by
   unfold Yb at h;cases hm:uA o with
   |some dx =>
    obtain⟨d,x⟩:=dx;rw[hm] at h;simp only at h;obtain⟨_,hd,_⟩:=tK hm;exact⟨.ptr d 0,_,_,h,by rw[hd];funext t;simp[upd,bB],.mk hm rfl rfl⟩
   |none =>
    rw[hm] at h;simp only at h;cases he:yT es i with
    |some n =>
     rw[he] at h;simp only at h;obtain⟨pv,x,x0,h1,h2,h3,h4,h5⟩:=Pp (ops:=ops) h;exact⟨pv,_,_,h1,w7 _ _ _,.eff hm he h2 h3 h4 h5 rfl⟩
    |none =>
     rw[he] at h;simp only at h;rcases KF h with⟨pv,q1,q2⟩|⟨q1,q2⟩;{obtain⟨pv',p,g1,g2,g3,g4⟩:=K6 q1;exact⟨pv',O,p.tmps,g2,g4,.pure hm he (q2 pv' g1) rfl⟩};{exact⟨.tup [],O,_,q1,w7 _ _ _,.pure hm he q2 rfl⟩}
  obtain⟨pvs,Ob,T',g1,g2,g3,g4,g5⟩:=AI r (i+1) h1;refine⟨pv::pvs,λj=>match j with|0=>O|j+1=>Ob j,T',by simp[g1],rfl,by omega,by rw[g4,ht1];rfl,λj o' pv' hj hp=>?_⟩;cases j with
  |zero =>
   simp only[mH,pE] at hj hp;subst hj hp;show EfStep ops es ms lim i o _ pv O (Ob 0);rw[g2];exact hst
  |succ j =>
   simp only[p9] at hj hp;have:=g5 j o' pv' hj hp;rw[ht1] at this;rw[show i+(j+1)=i+1+j by omega];exact this
def EMem (ops:List Oper) (es:List (Nat×Nat)) (k:Nat) (O0:List (Nat×Obj')) (X:Nat->Obj') (L:Nat->Prop) (y:Nat×Obj'):Prop :=
 ((y∈O0\/∃ j oj,j<k/\L j/\ops[j]?=some oj/\uA oj=some y)/\¬∃ i,i<k/\yT es i=some y.1/\L i)\/(∃ i,i<k/\yT es i=some y.1/\L i/\X i=y.2)
section
variable {ops:List Oper} {es:List (Nat×Nat)} {k:Nat} {O0:List (Nat×Obj')} {X:Nat->Obj'} {L L':Nat->Prop}
theorem EMem.pure {i:Nat}{o:Oper}(ho:ops[i]?=some o)(hm:uA o=none)(he:yT es i=none)(hL':∀ j,L' j↔L j\/j=i)(y:Nat×Obj'):EMem ops es k O0 X L' y↔EMem ops es k O0 X L y:=by
 have h1:(∃ j oj,j<k/\L' j/\ops[j]?=some oj/\uA oj=some y)↔∃ j oj,j<k/\L j/\ops[j]?=some oj/\uA oj=some y:=by grind
 have h2:∀ P:Nat->Prop,(∃ j,j<k/\yT es j=some y.1/\L' j/\P j)↔∃ j,j<k/\yT es j=some y.1/\L j/\P j:=by grind
 have h3:(∃ i,i<k/\yT es i=some y.1/\L' i)↔∃ i,i<k/\yT es i=some y.1/\L i:=by grind
 unfold EMem;simp_all
theorem EMem.mk {i:Nat}{o:Oper}{d:Nat}{x:Obj'}(ho:ops[i]?=some o)(hik:i<k)(hm:uA o=some (d,x))(he:yT es i=none)(hno:∀ j,j<k->yT es j=some d->¬L j)(hL':∀ j,L' j↔L j\/j=i)(y:Nat×Obj'):EMem ops es k O0 X L' y↔EMem ops es k O0 X L y\/y=(d,x):=by
 have h1:(∃ j oj,j<k/\L' j/\ops[j]?=some oj/\uA oj=some y)↔(∃ j oj,j<k/\L j/\ops[j]?=some oj/\uA oj=some y)\/y=(d,x):=by grind
 have h2:∀ P:Nat->Prop,(∃ j,j<k/\yT es j=some y.1/\L' j/\P j)↔∃ j,j<k/\yT es j=some y.1/\L j/\P j:=by grind
 have h3:(∃ i,i<k/\yT es i=some y.1/\L' i)↔∃ i,i<k/\yT es i=some y.1/\L i:=by grind
 have h4:y=(d,x)->¬∃ i,i<k/\yT es i=some y.1/\L i:=by grind
 unfold EMem;rw[h1,h2,h3];constructor
 ·rintro (⟨q1|q1|q1,q2⟩|q);{grind};{grind}
  all_goals grind
 ·rintro ((⟨q1|q1,q2⟩|q)|q);{grind};{grind}
  all_goals grind
theorem EMem.eff {i:Nat}{o:Oper}{n:Nat}(hinj:∀ {i j n},yT es i=some n->yT es j=some n->i=j)(ho:ops[i]?=some o)(hik:i<k)(hm:uA o=none)(he:yT es i=some n)(hL':∀ j,L' j↔L j\/j=i)(y:Nat×Obj'):EMem ops es k O0 X L' y↔(y.1=n/\y.2=X i)\/(y.1≠n/\EMem ops es k O0 X L y):=by
 have h1:(∃ j oj,j<k/\L' j/\ops[j]?=some oj/\uA oj=some y)↔∃ j oj,j<k/\L j/\ops[j]?=some oj/\uA oj=some y:=by grind
 by_cases hy:y.1=n;{have h2:∀ j,yT es j=some y.1->j=i:=λj hj=>hinj (by grind) he;unfold EMem;grind}
 ·(have h2:∀ P:Nat->Prop,(∃ j,j<k/\yT es j=some y.1/\L' j/\P j)↔∃ j,j<k/\yT es j=some y.1/\L j/\P j:=by grind);have h3:(∃ i,i<k/\yT es i=some y.1/\L' i)↔∃ i,i<k/\yT es i=some y.1/\L i:=by grind
  unfold EMem;rw[h1,h2,h3];constructor;{intro q;exact .inr ⟨hy,q⟩}
  ·rintro (⟨q,_⟩|⟨_,q⟩)
   all_goals omega
end
theorem Nt {ops:List Oper}{k:Nat}(D:DrawOk ops k){Q:Exit->Act->World->Prop}{K:PS->Prop}(hdst:∀ o,o∈ops->nQ N o=true)(hk:∀ ps' a' w' S' β',K ps'->Sim w0 S0 K0 N (zF ps'.tmps) ps'.objs a' w' S' β'->Q .normal a' w') {T0 T2:List (Nat×PV)} {O0 O2:List (Nat×Obj')} {pvs:List PV} {es:List (Nat×Nat)} {ms lim:List (Nat×Obj')} {X:Nat->Obj'} {Ob:Nat->List (Nat×Obj')} (hkl:k<=ops.length) (hlen:pvs.length=(ops.take k).length) (hK:jZ ops (ops.drop k) ⟨T2,O2⟩ K) (ht2:zF T2=bY (ops.take k) pvs (zF T0)) (hO2:∀ y,y∈O2↔EMem ops es k O0 X (λj=>j<k) y) (hnd2:(O2.map Prod.fst).Nodup) (hms:∀ x,x∈ms↔∃ i o,i<k/\ops[i]?=some o/\uA o=some x) (hfr:∀ n x,(n,x)∈ms->n<1000000/\(∀ t,wO n (zF T0 t)=true)/\(∀ m o,(m,o)∈O0->m≠n/\cS n o)/\(∀ t,t≠n->wO n (zF T2 t)=true)) (hlim:∀ n o,yO lim n=some o->(n,o)∈O0/\∀ i,yT es i≠some n) (hinj:∀ {i j n},yT es i=some n->yT es j=some n->i=j) (hmkE:∀ i o x,ops[i]?=some o->uA o=some x->yT es i=none) (hanc:∀ i n j oj x,i<k->yT es i=some n->j<k->ops[j]?=some oj->uA oj=some (n,x)->((anc ops).getD i 0).testBit j=true) (hOb:∀ i,i<k->∀ y,y∈Ob i↔EMem ops es k O0 X (λj=>j<i) y) (hst:∀ i o pv,(ops.take k)[i]?=some o->pvs[i]?=some pv->EfStep ops es ms lim i o (bY ((ops.take k).take i) (pvs.take i) (zF T0)) pv (Ob i) (Ob (i+1))) (hX:∀ i n x,i<k->yT es i=some n->(n,x)∈Ob (i+1)->X i=x) (hXin:∀ i n x0 x,yO (Ob i) n=some x0->(n,x)∈setO (Ob i) n x):∀ (fuel:Nat) (L:Array Bool) {a:Act} {w:World} {S:Nat->Nat->Prop} {β:Bm} {T:List (Nat×PV)} {objs':List (Nat×Obj')},L.size=ops.length->(∀ j,j<ops.length->k<=j->¬Lst L j)->(∀ i o,ops[i]?=some o->Lst L i->nV (Lst L) o)->unl L ops.length<=fuel ->Sim w0 S0 K0 N (zF T) objs' a w S β->(∀ y,y∈objs'↔EMem ops es k O0 X (Lst L) y)->At ops k pvs (zF T0) (Lst L) (zF T)->wpAny Pg .any ops.toArray Q fuel L a w:=by
 have hpl:k<=pvs.length:=by rw[hlen];simp;omega
 have htx:At ops k pvs (zF T0) (λj=>j<k) (zF T2):=by
  (have htx:=At.text (τ0:=zF T0) D hlen k (yD _);have e1:(ops.take k).take k=ops.take k:=by rw[List.take_take,Nat.min_self]);have e2:pvs.take k=pvs:=yW (by rw[hlen];simp;omega)
  grind
 have hend:∀ {T:List (Nat×PV)} {L:Array Bool},(∀ j,j<k->Lst L j)->At ops k pvs (zF T0) (Lst L) (zF T)->zF T=zF T2:=by intro T L hfull hat;funext t;exact hat.same D hpl htx λj o hj ho hd=>.inl ⟨hfull j hj,hj⟩
 have hEx:∀ {L:Array Bool},(∀ j,j<k->Lst L j)->∀ y,EMem ops es k O0 X (Lst L) y↔EMem ops es k O0 X (λj=>j<k) y:=by
  (intro L hfull y;have e1:∀ P:Nat->Prop,(∃ j,j<k/\yT es j=some y.1/\Lst L j/\P j)↔∃ j,j<k/\yT es j=some y.1/\j<k/\P j:=λP=>⟨λ⟨j,q1,q2,_,q4⟩=>⟨j,q1,q2,q1,q4⟩,λ⟨j,q1,q2,_,q4⟩=>⟨j,q1,q2,hfull j q1,q4⟩⟩;have e2:(∃ j oj,j<k/\Lst L j/\ops[j]?=some oj/\uA oj=some y)↔∃ j oj,j<k/\j<k/\ops[j]?=some oj/\uA oj=some y:=⟨λ⟨j,oj,q1,_,q3⟩=>⟨j,oj,q1,q1,q3⟩,λ⟨j,oj,q1,_,q3⟩=>⟨j,oj,q1,hfull j q1,q3⟩⟩;have e3:(∃ i,i<k/\yT es i=some y.1/\Lst L i)↔∃ i,i<k/\yT es i=some y.1/\i<k:=by simpa using e1 (λ_=>True));unfold EMem
  rw[e1,e2,e3]
 intro fuel;induction fuel with
 |zero =>
  (intro L a w S β T objs' hsz hge hcl hun h hin hat;have hall:=Xp (Nat.le_zero.1 hun);have hall':∀ j,j<ops.length->Lst L j:=λj hj=>by have h1:=hall j hj;rw[kQ oM true false] at h1;exact h1);have hkn:ops.length<=k:=by rcases qW k ops.length with h'|h';{exact absurd (hall' k h') (hge k h' (yD _))};omega
  have hfull:∀ j,j<k->Lst L j:=λj hj=>hall' j oM;refine FP D hdst hk 0 k L (ps:=⟨T2,O2⟩) (S:=S) (β:=β) (yD _) hkl hsz (λj hj=>⟨λ_=>by omega,λ_=>hall' j hj⟩) oM ?_ hK;show Sim w0 S0 K0 N (zF T2) O2 a w S β;rw[<-hend hfull hat];exact h.perm (λx=>by rw[hO2 x,hin x,hEx hfull x]) hnd2
 |succ fuel ih =>
  intro L a w S β T objs' hsz hge hcl hun h hin hat;by_cases hfull:∀ j,j<k->Lst L j
  ·refine FP D hdst hk (fuel+1) k L (ps:=⟨T2,O2⟩) (S:=S) (β:=β) (yD _) hkl hsz (λj hj=>⟨λhl=>?_,λhj'=>hfull j hj'⟩) ?_ ?_ hK;{rcases qW j k with h'|h';{exact h'};{exact absurd hl (hge j hj h')}}
   ·have cnt:∀ n,k<=n->n<=ops.length->n<=k+unl L n:=by
     intro n;induction n with
     |zero=>omega| succ n ihn =>
      intro hkn hn;simp only[unl];by_cases hk0:k=n+1;{omega}
      ·(have:=ihn oM oM;have hnl:=hge n oM oM;have:L.getD n true≠true:=by rw[kQ oM true false];exact hnl);rw[if_neg this]
       omega
    have:=cnt ops.length hkl (yD _);omega
   {show Sim w0 S0 K0 N (zF T2) O2 a w S β;rw[<-hend hfull hat];exact h.perm (λx=>by rw[hO2 x,hin x,hEx hfull x]) hnd2}
  ·have hun0:∃ j,j<k/\¬Lst L j/\∀ i,i<j->Lst L i:=by
    have:∀ n,n<=k->(∀ i,i<n->Lst L i)\/∃ j,j<k/\¬Lst L j/\∀ i,i<j->Lst L i:=by
     intro n;induction n with
     |zero=>intro _;exact .inl λi h=>by omega| succ n ihn =>
      intro hn;rcases ihn oM with h1|h1;{by_cases hx:Lst L n;{refine .inl λi hi=>?_;by_cases e:i=n;{exact e ▸ hx};{exact h1 i oM}};{exact .inr ⟨n,by omega,hx,h1⟩}};{exact .inr h1}
    rcases this k (yD _) with h1|h1;{exact absurd h1 hfull};omega
   obtain⟨j0,hj0,hnj0,hbelow⟩:=hun0;refine⟨λhr=>?_,λi hi=>?_⟩
   ·(exfalso;have hlt:j0<ops.length:=by omega);have hin:j0∈Region.ready .any ops.toArray L:=by
     refine mem_ready.2 ⟨?_,ops[j0],by simp[hlt],λe he hb=>?_⟩
     ·rw[kQ oM true false];cases hx:L.getD j0 false with
      |false=>rfl| true=>exact absurd hx hnj0
     {exact hbelow e.on (D.back j0 _ (j2 hlt) e (by simpa using he) hb)}
    rw[hr] at hin;cases hin
   ·(obtain⟨h1,o,h2,h3⟩:=mem_ready.1 hi;have ho:ops[i]?=some o:=by simpa using h2);have hlt:i<ops.length:=(xP.1 ho).1
    have hE:nV (Lst L) o:=λe he hb=>h3 e (by simpa using he) hb;have hik:i<k:=by rcases qW i k with h'|h';{exact h'};{exact absurd (uP hcl ho hE (D.rest i j0 hlt h' oM)) hnj0}
    (have hp:pvs[i]?=some pvs[i]:=j2 oM;have hdo:=nP (hdst o (zX ho));have hsize:i<L.size:=by omega);have hnl:¬Lst L i:=λhl=>by rw[kQ oM true false] at h1;unfold Lst at hl;rw[h1] at hl;exact absurd hl (by decide)
    (have hagree:∀ t,t∈fD ops o->bY ((ops.take k).take i) (pvs.take i) (zF T0) t=zF T t:=λt ht=>At.same D hpl (At.text D hlen i oM) hat λj oj hj hoj hd=>by rcases D.look i o t j oj hik hj ho hoj ht hd with⟨q1,q2⟩|⟨q1,q2⟩;{exact .inl ⟨q1,uP hcl ho hE q2⟩};{refine .inr ⟨by omega,λhl=>?_⟩;have:=uP hcl hoj (hcl j oj hoj hl) q2;rw[kQ oM true false] at h1;exact absurd this (by unfold Lst;rw[h1];decide)});have hLs:∀ j,Lst (L.setIfInBounds i true) j↔Lst L j\/j=i:=dK hsize;have hnext:∀ {a':Act} {w':World} {S':Nat->Nat->Prop} {β':Bm} {T':List (Nat×PV)} {objs3:List (Nat×Obj')},zF T'=upd (zF T) o.dst pvs[i]->Sim w0 S0 K0 N (zF T') objs3 a' w' S' β'->(∀ y,y∈objs3↔EMem ops es k O0 X (Lst (L.setIfInBounds i true)) y)->wpAny Pg .any ops.toArray Q fuel (L.setIfInBounds i true) a' w':=by intro a' w' S' β' T' objs3 hT hsim g1;refine ih (L.setIfInBounds i true) (by simpa using hsz) (λj hj hkj hl=>?_) (λj oj hoj hl=>?_) ?_ hsim g1 (by rw[hT];exact hat.step D hik ho hp λj=>dK hsize j);{rcases (dK hsize j).1 hl with hl|hl;{exact hge j hj hkj hl};{omega}};{intro e he hb;rw[dK hsize];rcases (dK hsize j).1 hl with hl|hl;{exact .inl (hcl j oj hoj hl e he hb)};{subst hl;rw[ho] at hoj;cases hoj;exact .inl (hE e he hb)}};{have:=U6 h1 hlt;omega}
    cases hst i o pvs[i] (by rw[rT hik];exact ho) hp with
    | @mk d x hmk hpv hO =>
     obtain⟨hgn,hod,t0,hop0,hno0,hx0⟩:=tK hmk;have hinms:(d,x)∈ms:=(hms _).2 ⟨i,o,hik,ho,hmk⟩;obtain⟨f1,f2,f3,f4⟩:=hfr d x hinms;have uniq:∀ j oj,j<k->ops[j]?=some oj->oj.dst=some d->j=i:=λj oj hj hoj hd' =>
      p6 D.dst (by rw[rT hj];exact hoj) (by rw[rT hik];exact ho) hd' hod
     (have hnoE:∀ j,j<k->yT es j=some d->¬Lst L j:=λj hj hje hjl=>by have hjo:ops[j]?=some ops[j]:=j2 oM;exact hnl (uP hcl hjo (hcl j _ hjo hjl) (hanc j d i o x hj hje hik ho hmk)));refine nW ho (.inl ⟨by simp[Region.wanted,hgn],LK hmk (hdst o (zX ho)) h f1 (λt=>?_) (λ{m y} hmy=>?_) λa' w' β' hsim=>?_⟩)
     {by_cases hw:∃ j oj,j<k/\Lst L j/\ops[j]?=some oj/\oj.dst=some t;{obtain⟨j,oj,q1,q2,q3,q4⟩:=hw;have hpj:pvs[j]?=some pvs[j]:=j2 oM;rw[hat.hit j oj t _ q1 q2 q3 hpj q4,<-htx.hit j oj t _ q1 q1 q3 hpj q4];refine f4 t λe=>?_;subst e;exact hnl (uniq j oj q1 q3 q4 ▸ q2)};{rw[hat.miss t λj oj q1 q2 q3 q4=>hw ⟨j,oj,q1,q2,q3,q4⟩];exact f2 t}}
     ·rcases (hin _).1 hmy with⟨q|⟨j,oj,q1,q2,q3,q4⟩,_⟩|⟨j,q1,q2,q3,q4⟩;{exact f3 m y q};{obtain⟨_,hodj,t1,_,hno1,hy1⟩:=tK q4;refine⟨λe=>?_,?_⟩;{subst e;exact hnl (uniq j oj q1 q3 hodj ▸ q2)};{rw[hy1];exact VT hno1}}
      ·refine⟨λe=>?_,?_⟩;{simp only at q2;rw[e] at q2;exact hnoE j q1 q2 q3}
       ·have hjo:ops[j]?=some ops[j]:=j2 oM;have hpj:pvs[j]?=some pvs[j]:=j2 oM;cases hst j ops[j] pvs[j] (by rw[rT q1];exact hjo) hpj with
        |mk hmk' _ _=>rw[hmkE j _ _ hjo hmk'] at q2;cases q2
        |pure _ he' _ _=>rw[he'] at q2;cases q2
        |eff hm' he' h0' hfree' hg' hgo' hO' =>
         rw[he'] at q2;cases q2;have:=hX j _ _ q1 he' (by rw[hO'];exact hXin _ _ _ _ h0');have q4':X j=y:=q4;rw[<-q4',this];exact hfree' d x hinms
     {have hT:zF (put ⟨T,[]⟩ o.dst pvs[i]).tmps=upd (zF T) o.dst pvs[i]:=w7 _ _ _;rw[<-hpv,<-hT] at hsim;refine hnext hT hsim λy=>?_;rw[uQ,kC,EMem.mk ho hik hmk (hmkE i o _ ho hmk) hnoE hLs y,hin y]}
    | @eff n x x0 hm he h0 hfree hg hgo hO =>
     have hxX:X i=x:=hX i n x hik he (by rw[hO];exact hXin _ _ _ _ h0);have hne:∀ {y:Nat×Obj'} {M:Nat->Prop},y.1=n->¬M i->EMem ops es k O0 X M y->(y∈O0\/∃ j oj,j<k/\M j/\ops[j]?=some oj/\uA oj=some y):=λ{y M} hy hMi hE=>by rcases hE with⟨q,_⟩|⟨j,q1,q2,q3,q4⟩;{exact q};{rw[hy] at q2;have:=hinj q2 he;subst this;exact absurd q3 hMi}
     (have hx0:=hne (y:=(n,x0)) rfl oM ((hOb i hik _).1 (xL h0));have hnoL:¬∃ j,j<k/\yT es j=some n/\Lst L j:=λ⟨j,q1,q2,q3⟩=>hnl (hinj q2 he ▸ q3);have hin0:(n,x0)∈objs':=by rw[hin];refine .inl ⟨?_,hnoL⟩;rcases hx0 with q|⟨j,oj,q1,q2,q3,q4⟩;{exact .inl q};{exact .inr ⟨j,oj,q1,uP hcl ho hE (hanc i n j oj x0 hik he q1 q3 q4),q3,q4⟩});have hget:yO objs' n=some x0:=uB h.obj.nd hin0;have hs0:=hgo T objs' (λt ht=>(hagree t ht).symm) hget;have hnin:n∈objs'.map Prod.fst:=xA.2 ⟨_,hin0,rfl⟩;refine nW ho (.inl ⟨by simp[Region.wanted,hg],sK (ps:=⟨T,objs'⟩) h hs0 hdo λps' a' w' S' β' hK hsim=>?_⟩);obtain⟨hK1,hK2⟩:=hK;rw[hK2] at hsim;refine hnext hK1 hsim λy=>?_;obtain⟨y1,y2⟩:=y;rw[Zc h.obj.nd hnin,EMem.eff hinj ho hik hm he hLs,hin,hxX]
    |pure hm he hs1 hO =>
     have hgo:∀ n o,yO lim n=some o->yO objs' n=some o:=λn o hg=>by obtain⟨q1,q2⟩:=hlim n o hg;exact uB h.obj.nd ((hin _).2 (.inl ⟨.inl q1,λ⟨j,_,q3,_⟩=>q2 j q3⟩))
     (have hs2:pH true lim ops o (zF T) pvs[i]:=Yo hagree hs1;have hfin:∀ y,y∈objs'↔EMem ops es k O0 X (Lst (L.setIfInBounds i true)) y:=λy=>by rw[EMem.pure ho hm he hLs y,hin y]);refine nW ho ?_
     rcases aH h.tmp hs2 with⟨hw,hA⟩|⟨hw,hB⟩;{refine .inl ⟨hw,KI h (Ds hgo hA) λpv w' S' β' v hpv l hr=>?_⟩;refine hnext (S':=S') (β':=β') (T':=(put ⟨T,[]⟩ o.dst pvs[i]).tmps) (w7 _ _ _) ?_ hfin;rw[w7];exact l.put o.dst hdo (hr.le _ hpv)};{refine .inr ⟨hw,hnext (S':=S) (β':=β) (T':=(put ⟨T,[]⟩ o.dst pvs[i]).tmps) (w7 _ _ _) ?_ hfin⟩;rw[w7];refine h.put o.dst hdo ?_;rw[hB];exact YX _ _ _}
theorem oI {P:List Nat}{w:World}{S:Nat->Nat->Prop}{β:Bm}{v:Value}{pv:PV}(h:Rep w S β v pv):Rep w S β v (scA P pv):=by
 cases pv with
 |agg cs=>exact xS _| tup cs=>exact xS _| fn f cs=>exact xS _| ptr m off=>simp only[scA];cases yG m P <;> first|exact h|exact xS _
 |aptr m s i off=>simp only[scA];cases yG m P <;> first|exact h|exact xS _
 |osl m s i len=>simp only[scA];cases yG m P <;> first|exact h|exact xS _
 |mpv m=>simp only[scA];cases yG m P <;> first|exact h|exact xS _
 |_=>exact h
theorem Qh {P:List Nat}{w:World}{S:Nat->Nat->Prop}{β:Bm}{v:Value}{pv:PV}(h:Rep w S β v pv):Rep w S β v (scB P pv):=by
 cases pv with
 |agg cs =>
  obtain⟨vs,rfl,h1,h2⟩:=qR h;exact .agg (by grind [zN]) λj hj=>by rw[zN] at hj;rw[yJ _ rfl];grind [oI]
 |tup cs =>
  obtain⟨vs,rfl,h1,h2⟩:=fQ h;exact .tup (by grind [zN]) λj hj=>by rw[zN] at hj;rw[yJ _ rfl];grind [oI]
 |fn f cs =>
  obtain⟨vs,rfl,h1,h2⟩:=gP h;exact .fn (by grind [zN]) λj hj=>by rw[zN] at hj;rw[yJ _ rfl];grind [oI]
 |_=>first|exact oI (P:=P) h|exact h
theorem lB {P:List Nat}{w:World}{S:Nat->Nat->Prop}{β:Bm}{v:Value}{pv:PV}(h:Rep w S β v pv):Rep w S β v (scC P pv):=by
 cases pv with
 |agg cs =>
  obtain⟨vs,rfl,h1,h2⟩:=qR h;exact .agg (by grind [zN]) λj hj=>by rw[zN] at hj;rw[yJ _ rfl];grind [Qh]
 |tup cs =>
  obtain⟨vs,rfl,h1,h2⟩:=fQ h;exact .tup (by grind [zN]) λj hj=>by rw[zN] at hj;rw[yJ _ rfl];grind [Qh]
 |fn f cs =>
  obtain⟨vs,rfl,h1,h2⟩:=gP h;exact .fn (by grind [zN]) λj hj=>by rw[zN] at hj;rw[yJ _ rfl];grind [Qh]
 |_=>exact oI (P:=P) h
theorem aO (f g h:PV->PV)(H:∀ v,f (g v)=h v):∀ l:List PV,vG f (vG g l)=vG h l
 |[]=>rfl| v::r=>by simp only[vG,H,aO f g h H r]
theorem tN (f g:PV->PV)(H:∀ v,f v=g v):∀ l:List PV,vG f l=vG g l
 |[]=>rfl| v::r=>by simp only[vG,H,tN f g H r]
theorem K5 (m n:Nat):nqb m n=nqb n m:=by grind [nqb]
theorem XE {P P':List Nat}(H:∀ m,yG m P=true->yG m P'=true)(v:PV):scA P' (scA P v)=scA P' v:=by
 have key:∀ {m:Nat} {x:PV},(∀ y,scA P' y=scA P' y)->(yG m P'=true->scA P' x=.any)->scA P' (match yG m P with|true=>PV.any|false=>x)=scA P' x:=by
  intro m x _ hx;cases h:yG m P with
  |true=>rw[hx (H m h)];rfl
  |false=>rfl
 cases v with
 |ptr m off=>exact key (λ_=>rfl) (λh=>by simp only[scA,h])| aptr m s i off=>exact key (λ_=>rfl) (λh=>by simp only[scA,h])| osl m s i len=>exact key (λ_=>rfl) (λh=>by simp only[scA,h])| mpv m=>exact key (λ_=>rfl) (λh=>by simp only[scA,h])| _=>rfl
def iG:PV->Bool
 |.agg _=>true| .tup _=>true| .fn _ _=>true| _=>false
theorem HC {P:List Nat}{v:PV}(h:iG v=false):scB P v=scA P v:=by cases v <;> first|rfl|cases h
theorem HB {P:List Nat}{v:PV}(h:iG v=false):scC P v=scA P v:=by cases v <;> first|rfl|cases h
theorem CN {n:Nat}{v:PV}(h:iG v=false):sc1 n v=sc0 n v:=by cases v <;> first|rfl|cases h
theorem CJ {n:Nat}{v:PV}(h:iG v=false):scr n v=sc0 n v:=by cases v <;> first|rfl|cases h
theorem ME {n:Nat}{v:PV}(h:iG v=false):rf1 n v=rf0 n v:=by cases v <;> first|rfl|cases h
theorem MC {n:Nat}{v:PV}(h:iG v=false):wO n v=rf0 n v:=by cases v <;> first|rfl|cases h
theorem Zw (P:List Nat)(v:PV):iG (scA P v)=false:=by
 cases v with
 |ptr m off=>simp only[scA];cases yG m P <;> rfl
 |aptr m s i off=>simp only[scA];cases yG m P <;> rfl
 |osl m s i len=>simp only[scA];cases yG m P <;> rfl
 |mpv m=>simp only[scA];cases yG m P <;> rfl
 |_=>rfl
theorem JQ (n:Nat)(v:PV):iG (sc0 n v)=false:=by
 cases v with
 |ptr m off=>simp only[sc0];cases nqb m n <;> rfl
 |aptr m s i off=>simp only[sc0];cases nqb m n <;> rfl
 |osl m s i len=>simp only[sc0];cases nqb m n <;> rfl
 |mpv m=>simp only[sc0];cases nqb m n <;> rfl
 |_=>rfl
theorem CM {P P':List Nat}(H:∀ m,yG m P=true->yG m P'=true)(v:PV):scB P' (scB P v)=scB P' v:=by
 cases hv:iG v with
 |false=>grind [HC,Zw,XE]| true=>cases v <;> first|(cases hv;done)|(simp only[scB];rw[aO _ _ _ (XE H)])
theorem KO {P P':List Nat}(H:∀ m,yG m P=true->yG m P'=true)(v:PV):scC P' (scC P v)=scC P' v:=by
 cases hv:iG v with
 |false=>grind [HB,Zw,XE]| true=>cases v <;> first|(cases hv;done)|(simp only[scC];rw[aO _ _ _ (CM H)])
theorem Qj (n:Nat)(P:List Nat)(v:PV):sc0 n (scA P v)=scA (n::P) v:=by
 have e:∀ m,yG m (n::P)=(nqb m n || yG m P):=λm=>by show (nqb n m || yG m P)=_;rw[K5]
 cases v with
 |ptr m off=>grind [scA,sc0]| aptr m s i off=>grind [scA,sc0]| osl m s i len=>grind [scA,sc0]| mpv m=>grind [scA,sc0]| _=>rfl
theorem Rb (n:Nat)(P:List Nat)(v:PV):sc1 n (scB P v)=scB (n::P) v:=by
 cases hv:iG v with
 |false=>grind [HC,CN,Zw,Qj]| true=>cases v <;> first|(cases hv;done)|(simp only[scB,sc1];rw[aO _ _ _ (Qj n P)])
theorem GS (n:Nat)(P:List Nat)(v:PV):scr n (scC P v)=scC (n::P) v:=by
 cases hv:iG v with
 |false=>grind [HB,CJ,Zw,Qj]| true=>cases v <;> first|(cases hv;done)|(simp only[scC,scr];rw[aO _ _ _ (Rb n P)])
theorem ZN {P P':List Nat}(H:∀ m,yG m P=yG m P')(v:PV):scA P v=scA P' v:=by
 cases v with
 |ptr m off=>simp only[scA,H]| aptr m s i off=>simp only[scA,H]| osl m s i len=>simp only[scA,H]| mpv m=>simp only[scA,H]| _=>rfl
theorem Du {P P':List Nat}(H:∀ m,yG m P=yG m P')(v:PV):scB P v=scB P' v:=by
 cases hv:iG v with
 |false=>grind [HC,ZN]| true=>cases v <;> first|(cases hv;done)|(simp only[scB];rw[tN _ _ (ZN H)])
theorem dR {P P':List Nat}(H:∀ m,yG m P=yG m P')(v:PV):scC P v=scC P' v:=by
 cases hv:iG v with
 |false=>grind [HB,ZN]| true=>cases v <;> first|(cases hv;done)|(simp only[scC];rw[tN _ _ (Du H)])
theorem HS (n:Nat)(v:PV):rf0 n (sc0 n v)=true:=by
 cases v with
 |ptr m off=>grind [sc0,rf0]| aptr m s i off=>grind [sc0,rf0]| osl m s i len=>grind [sc0,rf0]| mpv m=>grind [sc0,rf0]| _=>rfl
theorem iA {f:PV->Bool}{g:PV->PV}(H:∀ v,f (g v)=true):∀ l:List PV,yS f (vG g l)=true
 |[]=>rfl| v::r=>by simp only[vG,yS,H,iA H r];rfl
theorem MB (n:Nat)(v:PV):rf1 n (sc1 n v)=true:=by
 cases hv:iG v with
 |false=>grind [CN,ME,JQ,HS]| true=>cases v <;> first|(cases hv;done)|exact iA (HS n) _
theorem HR (n:Nat)(v:PV):wO n (scr n v)=true:=by
 cases hv:iG v with
 |false=>grind [CJ,MC,JQ,HS]| true=>cases v <;> first|(cases hv;done)|exact iA (MB n) _
theorem Gg {n:Nat}(hn:n<1000000)(T:List (Nat×PV))(O:List (Nat×Obj')):yV n ⟨uI (scr n) T,xO (scr n) (uD O n)⟩=true:=by
 have h1:∀ T:List (Nat×PV),pQ n (uI (scr n) T)=true:=by
  intro T;induction T with
  |nil=>rfl| cons a r ih=>grind [uI,pQ,HR]
 have h2:xI n (xO (scr n) (uD O n))=true:=Yt hn λm o hm=>by
  obtain⟨o',q1,q2⟩:=vJ _ hm;refine⟨(vK q1).2,?_⟩;cases o' with
  |box cs=>subst q2;exact iA (HR n) cs| arr s e=>subst q2;trivial| log s e=>subst q2;trivial| lent s e=>subst q2;trivial| mp t k=>subst q2;trivial| mat s r q=>subst q2;exact oY (HR n) q
 grind [yV]
def scO (P:List Nat):Obj'->Obj':=x9 (scC P)
theorem aD (P:List Nat){l:List (Nat×Obj')}{y:Nat×Obj'}:y∈xO (scC P) l↔∃ o,(y.1,o)∈l/\y.2=scO P o:=by
 constructor;{intro h;exact vJ (n:=y.1) (o:=y.2) _ h}
 ·(rintro⟨o,h1,h2⟩;have:=lJ (scC P) h1;have e:y=(y.1,x9 (scC P) o):=by rw[<-show scO P o=x9 (scC P) o from rfl,<-h2]);grind
theorem CK {P:List Nat}{w:World}{S:Nat->Nat->Prop}{β:Bm}{n:Nat}{o:Obj'}(h:ObjAt w S β n o):ObjAt w S β n (scO P o):=ObjAt.map rfl (λ_ _ hx=>lB hx) h
theorem GT {P:List Nat}{o:Obj'}{i:Nat}(h:j8 o i):j8 (scO P o) i:=pR h
theorem Uv (f g h:PV->PV)(H:∀ v,f (g v)=h v):∀ l:List (PV×(Unit->Nat)),sP f (sP g l)=sP h l
 |[]=>rfl| (v,k)::r=>by simp only[sP,H,Uv f g h H r]
theorem Wn (f g:PV->PV)(H:∀ v,f v=g v):∀ l:List (PV×(Unit->Nat)),sP f l=sP g l
 |[]=>rfl| (v,k)::r=>by simp only[sP,H,Wn f g H r]
theorem Yy (f g h:PV->PV)(H:∀ v,f (g v)=h v)(o:Obj'):x9 f (x9 g o)=x9 h o:=by
 cases o with
 |box cs=>grind [x9,aO]| mat s r q=>grind [x9,Uv]| _=>rfl
theorem Yz (f g:PV->PV)(H:∀ v,f v=g v)(o:Obj'):x9 f o=x9 g o:=by
 cases o with
 |box cs=>simp only[x9];rw[tN _ _ H]| mat s r q=>simp only[x9];rw[Wn _ _ H]| _=>rfl
theorem KN {P P':List Nat}(H:∀ m,yG m P=true->yG m P'=true)(o:Obj'):scO P' (scO P o)=scO P' o:=Yy _ _ _ (KO H) o
theorem Hz {P P':List Nat}(H:∀ m,yG m P=yG m P'):scO P=scO P':=funext λo=>Yz _ _ (dR H) o
theorem lA {P P':List Nat}(H:∀ m,yG m P=yG m P')(o:Obj'):scO P o=scO P' o:=Yz _ _ (dR H) o
theorem Sim.weak {τ τ':Nat->PV}{objs objs':List (Nat×Obj')}{a:Act}{w:World}{S:Nat->Nat->Prop}{β:Bm}(h:Sim w0 S0 K0 N τ objs a w S β)(hτ:∀ t v,Rep w S β v (τ t)->Rep w S β v (τ' t))(hnd:(objs'.map Prod.fst).Nodup) (ho:∀ n o',(n,o')∈objs'->∃ o,(n,o)∈objs/\(ObjAt w S β n o->ObjAt w S β n o')/\(∀ i,j8 o i->j8 o' i)/\∀ b,Own β n o' b->Own β n o b):Sim w0 S0 K0 N τ' objs' a w S β where
 dfr:=h.dfr
 sz:=h.sz
 ld:=h.ld
 tmp t:=hτ t _ (h.tmp t)
 obj:=⟨hnd,λn o hm=>by obtain⟨o1,q1,q2,_⟩:=ho n o hm;exact q2 (h.obj.at_ n o1 q1),
  λn o b hm hβ=>by obtain⟨o1,q1,_,q3,q4⟩:=ho n o hm;exact⟨λi hS=>q3 i ((h.obj.un n o1 b q1 (q4 b hβ)).1 i hS),(h.obj.un n o1 b q1 (q4 b hβ)).2⟩,
  λn o m o' b hm hm' hβ hβ'=>by obtain⟨x,q1,_,_,g1⟩:=ho n o hm;obtain⟨y,q2,_,_,g2⟩:=ho m o' hm';exact h.obj.inj _ _ _ _ b q1 q2 (g1 b hβ) (g2 b hβ')⟩
 own n o b hm hβ:=by obtain⟨x,q1,_,_,g1⟩:=ho n o hm;exact h.own n x b q1 (g1 b hβ)
 keep n o hm hb:=by obtain⟨x,q1,_⟩:=ho n o hm;exact h.keep n x q1 hb
def PL (B:Nat->Bool):List (Nat×Nat)->List Nat
 |[]=>[]| (e,m)::r=>(match B e with|true=>m::PL B r|false=>PL B r)
theorem gY:∀ {l:List Nat} {n:Nat},yG n l=true↔n∈l:=λ{l n}=>⟨vE,pU⟩
theorem dJ {B:Nat->Bool}{m:Nat}:∀ {es:List (Nat×Nat)},m∈PL B es↔∃ e,(e,m)∈es/\B e=true
 |[]=>by simp[PL]| (e,x)::r=>by
  unfold PL;cases hb:B e with
  |true =>
   simp only[yI,dJ (es:=r)];grind
  |false =>
   simp only[dJ (es:=r),yI];grind
theorem Ya {an:List Nat}{i m:Nat}:∀ {es:List (Nat×Nat)},m∈fG an i es↔∃ e,(e,m)∈es/\(an.getD e 0).testBit i=false
 |[]=>by simp[fG]| (e,x)::r=>by
  unfold fG;cases hb:(an.getD e 0).testBit i with
  |true =>
   simp only[Ya (es:=r),yI];grind
  |false =>
   simp only[yI,Ya (es:=r)];grind
theorem qV (P:List Nat):∀ (T:List (Nat×PV)) (t:Nat),zF (sS P T) t=(match yG t P with|true=>zF T t|false=>scC P (zF T t))
 |[],t=>by grind [sS,zF,scC,scA]| (u,v)::r,t=>by
  simp only[sS,zF];cases hu:nqb u t with
  |true=>grind [xC]| false=>exact qV P r t
inductive ApStep (ops:List Oper) (es:List (Nat×Nat)) (an:List Nat) (lim:List (Nat×Obj')) (i:Nat) (o:Oper) (τ:Nat->PV) (pv:PV) (O O':List (Nat×Obj')):Prop
 |app {n s o' l' x x0} (he:yT es i=some n) (hd:o.dst=some n) (hg:o.guard=none) (h0:yO O n=some x0) (hpv:pv=.osl n s o' l') (hx0:∀ P,scO P x0=x0) (hx:∀ P,scO P x=x)
   (hfix:∀ t,t∈fD ops o->(∃ a b c,τ t=.osl n a b c)\/∀ P,scC P (τ t)=τ t)
   (hgo:∀ (T':List (Nat×PV)) (O1:List (Nat×Obj')),(∀ t,t∈fD ops o->zF T' t=τ t)->yO O1 n=some x0->yV n ⟨uI (scr n) T',xO (scr n) (uD O1 n)⟩=true ->
    nD o ⟨T',O1⟩ (λp=>zF p.tmps=upd (λt=>scr n (zF T' t)) (some n) pv/\p.objs=xO (scr n) (uD O1 n)++[(n,x)])) (hO:O'=setO O n x)
 |pure (he:yT es i=none) (h:pH false (xO (scC (fG an i es)) lim) ops o (λt=>scC (fG an i es) (τ t)) pv) (hO:O'=O)
theorem Zl {v:PV}(h:jK v=true):v=.nil\/v=.emp:=by cases v <;> first|exact .inl rfl|exact .inr rfl|exact absurd h (by simp[jK])
theorem Po {ops:List Oper}{o:Oper}{n:Nat}{T:List (Nat×PV)}{O:List (Nat×Obj')}{K:PV->Obj'->Prop}(h:Np o n T O K):∃ pv s o' l' x x0,K pv x/\o.dst=some n/\o.guard=none/\yO O n=some x0/\pv=.osl n s o' l'/\(∀ P,scO P x0=x0)/\(∀ P,scO P x=x) /\ (∀ t,t∈fD ops o->(∃ a b c,zF T t=.osl n a b c)\/∀ P,scC P (zF T t)=zF T t) /\ ∀ (T':List (Nat×PV)) (O1:List (Nat×Obj')),(∀ t,t∈fD ops o->zF T' t=zF T t)->yO O1 n=some x0->yV n ⟨uI (scr n) T',xO (scr n) (uD O1 n)⟩=true ->nD o ⟨T',O1⟩ (λp=>zF p.tmps=upd (λt=>scr n (zF T' t)) (some n) pv/\p.objs=xO (scr n) (uD O1 n)++[(n,x)]):=by
 unfold Np at h;cases hg:o.guard with
 |some g=>grind| none =>
 rw[hg] at h;simp only at h;split at h
 ·rename_i c hop;split at h
  ·rename_i hcl;split at h
   ·rename_i b x t tx d hargs htys hd;split at h
    ·(rename_i hc;simp only[yK] at hc;have hdn:=xC hc.2;subst hdn;obtain⟨s,bb,z,xs,lg,els,h1,h2,h3,h5,hcase⟩:=h.h;have hmk:∀ (e:Unit->List (List D)) (P:List Nat),scO P (g8 lg s e)=g8 lg s e:=λe P=>by cases lg <;> rfl);have hlk:∀ u,u∈fD ops o->(b=.tmp u\/x=.tmp u):=λu hu=>by
      (unfold fD at hu;rw[hg] at hu;simp only[kN] at hu;rw[List.mem_filterMap] at hu;obtain⟨y,hy1,hy2⟩:=hu;have hy3:y=b\/y=x:=by grind [Op.operands,Call.operands]);grind
     rcases hcase with⟨o',len,h4,h6,h7,h8,h9⟩|⟨h4,h8,h9⟩
     ·refine⟨_,s,_,_,_,_,h9,hd,rfl,h5,rfl,hmk _,hmk _,λu hu=>?_,λT' O1 hT hO hfr=>?_⟩;{rcases hlk u hu with e|e;{rw[e] at h4;exact .inl ⟨_,_,_,h4⟩};{rw[e] at h2;rcases h2 with h2|⟨h2,_⟩;{exact .inr λP=>by rw[show zF T u=_ from h2];rfl};{exact .inr λP=>by rw[show zF T u=_ from h2];rfl}}}
      ·(have hev:=Ze hg hT;have e1:ev (zF T') b=.osl d s o' len:=by grind [Op.operands,Call.operands]);have e2:ev (zF T') x=ev (zF T) x:=hev x (by grind [Op.operands,Call.operands])
       unfold nD;simp only[hop,hcl];rw[hargs,htys];simp only[hc.1];refine⟨.inl ⟨⟨T',O1⟩,d,d,s,bb,z,xs,.refl _,hd,h1,.inl (by grind),h3,.inr ⟨lg,d,o',len,els,e1,hO,h6,h7,h8,hfr,?_,rfl⟩⟩⟩;grind [bB,upd,kP,n8]
     ·refine⟨_,s,_,_,_,_,h9,hd,rfl,h5,rfl,hmk _,λ_=>rfl,λu hu=>?_,λT' O1 hT hO hfr=>?_⟩;{rcases hlk u hu with e|e;{rw[e] at h4;rcases Zl h4 with h4|h4;{exact .inr λP=>by rw[show zF T u=_ from h4];rfl};{exact .inr λP=>by rw[show zF T u=_ from h4];rfl}};{rw[e] at h2;rcases h2 with h2|⟨h2,_⟩;{exact .inr λP=>by rw[show zF T u=_ from h2];rfl};{exact .inr λP=>by rw[show zF T u=_ from h2];rfl}}}
      ·(have hev:=Ze hg hT;have e1:jK (ev (zF T') b)=true:=by grind [Op.operands,Call.operands]);have e2:ev (zF T') x=ev (zF T) x:=hev x (by grind [Op.operands,Call.operands])
       have hsc:∀ (y:Operand),(jK (ev (zF T') y)=true\/∃ a,ev (zF T') y=.sl a)->ev (zF (uI (scr d) T')) y=ev (zF T') y:=λy hy=>by
        cases y with
        |tmp u =>
         have e:ev (zF (uI (scr d) T')) (.tmp u)=scr d (ev (zF T') (.tmp u)):=kP _ (n8 d) _ _;rw[e];rcases hy with hy|⟨a,hy⟩;{rcases Zl hy with hy|hy <;> rw[hy] <;> rfl};{rw[hy];rfl}
        |_=>rfl
       (have e3:jK (ev (zF (uI (scr d) T')) b)=true:=by grind);have e4:ev (zF (uI (scr d) T')) x=ev (zF T) x:=by grind [jK]
       unfold nD;simp only[hop,hcl];rw[hargs,htys];simp only[hc.1];refine⟨.inl ⟨⟨uI (scr d) T',xO (scr d) (uD O1 d)⟩,d,d,s,bb,z,xs,.drop d,hd,h1,.inl (by grind),h3,.inl ⟨e3,h8,hfr,?_,rfl⟩⟩⟩;grind [bB,upd,kP,n8]
    grind
   grind
  ·rename_i g hcl;split at h
   ·rename_i d hd;split at h
    ·rename_i hc;have hdn:=xC hc;subst hdn;obtain⟨f,caps,hn,cargs,m,k,s,els,els',o',l',h1,h2,h3,h4,hm,hkd,h5,h6,h7,h8⟩:=h.h;have hlk:∀ u,u∈fD ops o->.tmp u∈c.args.toList:=λu hu=>by
      (unfold fD at hu;rw[hg] at hu;simp only[kN] at hu;rw[List.mem_filterMap] at hu;obtain⟨y,hy1,hy2⟩:=hu;have:y=.tmp u:=by grind);subst this
      rw[hop] at hy1;simp only[Op.operands,Call.operands,hcl,Array.toList_append,uQ] at hy1;rcases hy1 with hy1|hy1;{simp at hy1;subst hy1;cases h2};omega
     have hfx:∀ (l:List Operand) (u:Nat),Operand.tmp u∈l->yS (Nf d) (evs (ev (zF T)) l)=true->Nf d (zF T u)=true:=by
      intro l u;induction l with
      |nil=>grind| cons y l ih =>
       intro h q;simp only[evs,yS,yK] at q;rcases yI.1 h with e|h;{subst e;exact q.1};grind
     refine⟨_,s,_,_,_,_,h8,hd,rfl,h5,rfl,λ_=>rfl,λ_=>rfl,λu hu=>?_,λT' O1 hT hO hfr=>?_⟩
     ·have:=hfx _ u (hlk u hu) h7;generalize zF T u=v at this ⊢;cases v with
      |osl m' a b c =>
       have e:=xC (show nqb m' d=true from this);grind
      |agg _=>cases this
      |tup _=>cases this
      |fn _ _=>cases this
      |ptr _ _=>cases this
      |aptr _ _ _ _=>cases this
      |mpv _=>cases this
      |_=>exact .inr λP=>rfl
     ·(have hev:=Ze hg hT;have e1:ev (zF T') g=.fn f caps:=by grind [Op.operands,Call.operands]);have e2:evs (ev (zF T')) c.args.toList=evs (ev (zF T)) c.args.toList:=pY λy hy=>hev y (by grind [Op.operands,Call.operands])
      unfold nD;simp only[hop,hcl];refine⟨⟨T',O1⟩,.refl _,f,caps,e1,.inr ⟨hn,cargs,[],[(m,.arr s els)],_,[],[(k,.arr s els')],by grind,h4,⟨⟨by rw[hm];exact hO,rfl⟩,trivial⟩,rfl,rfl,rfl,rfl,?_,h6,rfl,?_,?_⟩⟩;{show (yV (hn k) (rZ hn [(m,.arr s els)] ⟨T',O1⟩)&&true)=true;rw[Hb,hkd];show yV d ⟨uI (scr (hn m)) T',xO (scr (hn m)) (uD O1 (hn m))⟩=true;grind};{show nmIn [k] (.osl k s o' l')=true;simp[nmIn,nm0,yG]}
      ·have e3:aA hn [(m,.arr s els)] [] [(k,.arr s els')] ⟨T',O1⟩=⟨uI (scr d) T',xO (scr d) (uD O1 d)++[(d,.arr s els')]⟩:=by show (⟨uI (scr (hn m)) T',xO (scr (hn m)) (uD O1 (hn m))++[(hn k,.arr s els')]⟩:PS)=_;grind
       (rw[e3,hd];have e4:ren hn (.osl k s o' l')=.osl d s o' l':=by show PV.osl (hn k) s o' l'=_;rw[hkd]);rw[e4]
       refine⟨?_,rfl⟩;funext t;show zF (uG (uI (scr d) T') d _) t=_;grind [bB,upd,kP,n8]
    grind
   grind
  grind
 grind
theorem A6 {ops:List Oper}{es:List (Nat×Nat)}{an:List Nat}{lim:List (Nat×Obj')}{K:List (Nat×PV)->List (Nat×Obj')->Prop}:∀ (l:List Oper) (i:Nat) {T:List (Nat×PV)} {O:List (Nat×Obj')},J7 ops es an lim l i T O K ->∃ (pvs:List PV) (Ob:Nat->List (Nat×Obj')) (T':List (Nat×PV)),pvs.length=l.length/\Ob 0=O/\K T' (Ob l.length)/\zF T'=bY l pvs (zF T) /\ ∀ j o pv,l[j]?=some o->pvs[j]?=some pv->ApStep ops es an lim (i+j) o (bY (l.take j) (pvs.take j) (zF T)) pv (Ob j) (Ob (j+1))
 |[],i,T,O,h=>⟨[],λ_=>O,T,rfl,rfl,h,rfl,λj o pv h=>by simp at h⟩| o::r,i,T,O,h=>by
  obtain⟨pv,O1,T1,h1,ht1,hst⟩:∃ pv O1 T1,J7 ops es an lim r (i+1) T1 O1 K/\zF T1=upd (zF T) o.dst pv/\ApStep ops es an lim i o (zF T) pv O O1:=by
   unfold J7 at h;cases he:yT es i with
   |some n =>
    rw[he] at h;simp only at h;obtain⟨pv,s,o',l',x,x0,q1,q2,q3,q4,q5,q6,q7,q8,q9⟩:=Po (ops:=ops) h;exact⟨pv,_,_,q1,w7 _ _ _,.app he q2 q3 q4 q5 q6 q7 q8 q9 rfl⟩
   |none =>
    rw[he] at h;simp only at h;have hm:zF (uI (scC (fG an i es)) T)=λt=>scC (fG an i es) (zF T t):=funext λt=>kP _ rfl _ _;rw[hm] at h;rcases KF h with⟨pv,q1,q2⟩|⟨q1,q2⟩;{obtain⟨pv',p,g1,g2,g3,g4⟩:=K6 q1;exact⟨pv',O,p.tmps,g2,g4,.pure he (q2 pv' g1) rfl⟩};{exact⟨.tup [],O,_,q1,w7 _ _ _,.pure he q2 rfl⟩}
  obtain⟨pvs,Ob,T',g1,g2,g3,g4,g5⟩:=A6 r (i+1) h1;refine⟨pv::pvs,λj=>match j with|0=>O|j+1=>Ob j,T',by simp[g1],rfl,by omega,by rw[g4,ht1];rfl,λj o' pv' hj hp=>?_⟩;cases j with
  |zero =>
   simp only[mH,pE] at hj hp;subst hj hp;show ApStep ops es an lim i o _ pv O (Ob 0);rw[g2];exact hst
  |succ j =>
   simp only[p9] at hj hp;have:=g5 j o' pv' hj hp;rw[ht1] at this;rw[show i+(j+1)=i+1+j by omega];exact this
theorem Wq:∀ {es:List (Nat×Nat)} {i m:Nat},yT es i=none->(i,m)∉es
 |(a,b)::r,i,m,h,hm=>by
  unfold yT at h;cases ha:nqb a i with
  |true=>grind| false =>
   rw[ha] at h;rcases yI.1 hm with e|hm;{simp_all};{exact Wq h hm}
 |[],i,m,_,hm=>by grind
theorem mV:∀ {es:List (Nat×Nat)} {m:Nat},m∈kL es↔∃ e,(e,m)∈es
 |[],m=>by simp[kL]| (e,x)::r,m=>by
  simp only[kL,yI,mV (es:=r)];constructor
  ·rintro (rfl|⟨e',h⟩)
   all_goals grind
  grind
def VD (es:List (Nat×Nat)) (O0:List (Nat×Obj')) (X:Nat->Obj') (B:Nat->Bool) (y:Nat×Obj'):Prop :=
 ∃ o,(y.1,o)∈O0/\y.2=scO (PL B es) (match yG y.1 (PL B es) with|true=>X y.1|false=>o)
theorem eZ {es:List (Nat×Nat)}{O0:List (Nat×Obj')}{X:Nat->Obj'}{B B':Nat->Bool}(h:∀ m,yG m (PL B es)=yG m (PL B' es))(y:Nat×Obj'):VD es O0 X B y↔VD es O0 X B' y:=by grind [VD,lA]
theorem Td {es:List (Nat×Nat)}{B B':Nat->Bool}(h:∀ e m,(e,m)∈es->B e=B' e)(m:Nat):yG m (PL B es)=yG m (PL B' es):=by rw[rS,gY,gY,dJ,dJ];grind
theorem NI {es:List (Nat×Nat)}{B B':Nat->Bool}{i n:Nat}(hi:(i,n)∈es)(hu:∀ m,(i,m)∈es->m=n)(hB:∀ e,B' e=(B e || nqb e i))(m:Nat):yG m (PL B' es)=yG m (n::PL B es):=by
 rw[rS,gY,gY,dJ,yI,dJ];constructor;{rintro⟨e,h1,h2⟩;rw[hB] at h2;simp only[Kq] at h2;grind [xC]}
 ·rintro (rfl|⟨e,h1,h2⟩)
  all_goals grind [nqb_self]
def T6 (n:Nat):Obj'->Obj':=x9 (scr n)
theorem Ns {ops:List Oper}{k:Nat}(D:DrawOk ops k){Q:Exit->Act->World->Prop}{K:PS->Prop}(hdst:∀ o,o∈ops->nQ N o=true)(hk:∀ ps' a' w' S' β',K ps'->Sim w0 S0 K0 N (zF ps'.tmps) ps'.objs a' w' S' β'->Q .normal a' w') {T0 T2:List (Nat×PV)} {O0 O2:List (Nat×Obj')} {pvs:List PV} {es:List (Nat×Nat)} {X:Nat->Obj'} {Ob:Nat->List (Nat×Obj')} (hkl:k<=ops.length) (hlen:pvs.length=(ops.take k).length) (hK:jZ ops (ops.drop k) ⟨sS (kL es) T2,O2⟩ K) (ht2:zF T2=bY (ops.take k) pvs (zF T0)) (hO2:∀ y,y∈O2↔VD es O0 X (λj=>decide (j<k)) y) (hnd2:(O2.map Prod.fst).Nodup) (hes:∀ e m,(e,m)∈es->e<k/\m<1000000/\yT es e=some m) (hinj:∀ {i j n},yT es i=some n->yT es j=some n->i=j) (hst:∀ i o pv,(ops.take k)[i]?=some o->pvs[i]?=some pv->ApStep ops es (anc ops) (gC (kL es) O0) i o (bY ((ops.take k).take i) (pvs.take i) (zF T0)) pv (Ob i) (Ob (i+1))) (h0:∀ i n x0,i<k->yT es i=some n->yO (Ob i) n=some x0->(n,x0)∈O0) (hX:∀ i n x x0,i<k->yT es i=some n->yO (Ob i) n=some x0->Ob (i+1)=setO (Ob i) n x->X n=x) (hnd0:(O0.map Prod.fst).Nodup):∀ (fuel:Nat) (L:Array Bool) {a:Act} {w:World} {S:Nat->Nat->Prop} {β:Bm} {G:List (Nat×PV)} {objs':List (Nat×Obj')},L.size=ops.length->(∀ j,j<ops.length->k<=j->¬Lst L j)->(∀ i o,ops[i]?=some o->Lst L i->nV (Lst L) o)->unl L ops.length<=fuel ->Sim w0 S0 K0 N (zF (sS (PL (λi=>L.getD i false) es) G)) objs' a w S β->(∀ y,y∈objs'↔VD es O0 X (λi=>L.getD i false) y)->At ops k pvs (zF T0) (Lst L) (zF G)->wpAny Pg .any ops.toArray Q fuel L a w:=by
 have hpl:k<=pvs.length:=by grind
 have htx:At ops k pvs (zF T0) (λj=>j<k) (zF T2):=by have htx:=At.text (τ0:=zF T0) D hlen k (yD _);grind
 have hall1:∀ {L:Array Bool},(∀ j,j<k->Lst L j)->(∀ m,yG m (PL (λi=>L.getD i false) es)=yG m (kL es))/\∀ m,yG m (PL (λi=>L.getD i false) es)=yG m (PL (λj=>decide (j<k)) es):=by intro L hfull;refine⟨λm=>?_,Td λe m he=>?_⟩;{rw[rS,gY,gY,dJ,mV];exact⟨λ⟨e,h1,_⟩=>⟨e,h1⟩,λ⟨e,h1⟩=>⟨e,h1,hfull e (hes e m h1).1⟩⟩};grind [Lst]
 have hendT:∀ {G:List (Nat×PV)} {L:Array Bool},(∀ j,j<k->Lst L j)->At ops k pvs (zF T0) (Lst L) (zF G)->zF (sS (PL (λi=>L.getD i false) es) G)=zF (sS (kL es) T2):=by
  (intro G L hfull hat;have hg:zF G=zF T2:=by funext t;exact hat.same D hpl htx λj o hj ho hd=>.inl ⟨hfull j hj,hj⟩);funext t;rw[qV,qV,hg,(hall1 hfull).1,dR (hall1 hfull).1]
 intro fuel;induction fuel with
 |zero =>
  (intro L a w S β G objs' hsz hge hcl hun h hin hat;have hall:=Xp (Nat.le_zero.1 hun);have hall':∀ j,j<ops.length->Lst L j:=λj hj=>by have h1:=hall j hj;rw[kQ oM true false] at h1;exact h1);have hkn:ops.length<=k:=by rcases qW k ops.length with h'|h';{grind};omega
  have hfull:∀ j,j<k->Lst L j:=λj hj=>hall' j oM;refine FP D hdst hk 0 k L (ps:=⟨sS (kL es) T2,O2⟩) (S:=S) (β:=β) (yD _) hkl hsz (λj hj=>⟨λ_=>by omega,λ_=>hall' j hj⟩) oM ?_ hK;show Sim w0 S0 K0 N (zF (sS (kL es) T2)) O2 a w S β;rw[<-hendT hfull hat];exact h.perm (λx=>by rw[hO2 x,hin x,eZ (hall1 hfull).2 x]) hnd2
 |succ fuel ih =>
  intro L a w S β G objs' hsz hge hcl hun h hin hat;by_cases hfull:∀ j,j<k->Lst L j
  ·refine FP D hdst hk (fuel+1) k L (ps:=⟨sS (kL es) T2,O2⟩) (S:=S) (β:=β) (yD _) hkl hsz (λj hj=>⟨λhl=>?_,λhj'=>hfull j hj'⟩) ?_ ?_ hK;{rcases qW j k with h'|h';{exact h'};grind}
   ·have cnt:∀ n,k<=n->n<=ops.length->n<=k+unl L n:=by
     intro n;induction n with
     |zero=>omega| succ n ihn =>
      intro hkn hn;simp only[unl];by_cases hk0:k=n+1;{omega}
      ·(have:=ihn oM oM;have hnl:=hge n oM oM;have:L.getD n true≠true:=by rw[kQ oM true false];exact hnl);grind
    grind
   {show Sim w0 S0 K0 N (zF (sS (kL es) T2)) O2 a w S β;rw[<-hendT hfull hat];exact h.perm (λx=>by rw[hO2 x,hin x,eZ (hall1 hfull).2 x]) hnd2}
  ·have hun0:∃ j,j<k/\¬Lst L j/\∀ i,i<j->Lst L i:=by
    have:∀ n,n<=k->(∀ i,i<n->Lst L i)\/∃ j,j<k/\¬Lst L j/\∀ i,i<j->Lst L i:=by
     intro n;induction n with
     |zero=>grind| succ n ihn =>
      intro hn;rcases ihn oM with h1|h1;{by_cases hx:Lst L n;{refine .inl λi hi=>?_;by_cases e:i=n;{grind};grind};{exact .inr ⟨n,by omega,hx,h1⟩}};{exact .inr h1}
    rcases this k (yD _) with h1|h1;{grind};omega
   obtain⟨j0,hj0,hnj0,hbelow⟩:=hun0;refine⟨λhr=>?_,λi hi=>?_⟩
   ·(exfalso;have hlt:j0<ops.length:=by omega);have hin:j0∈Region.ready .any ops.toArray L:=by
     refine mem_ready.2 ⟨?_,ops[j0],by simp[hlt],λe he hb=>?_⟩
     ·rw[kQ oM true false];cases hx:L.getD j0 false with
      |false=>rfl| true=>exact absurd hx hnj0
     {exact hbelow e.on (D.back j0 _ (j2 hlt) e (by grind) hb)}
    grind
   ·(obtain⟨h1,o,h2,h3⟩:=mem_ready.1 hi;have ho:ops[i]?=some o:=by simpa using h2);have hlt:i<ops.length:=(xP.1 ho).1
    have hE:nV (Lst L) o:=λe he hb=>h3 e (by simpa using he) hb;have hik:i<k:=by rcases qW i k with h'|h';{exact h'};{exact absurd (uP hcl ho hE (D.rest i j0 hlt h' oM)) hnj0}
    (have hp:pvs[i]?=some pvs[i]:=j2 oM;have hdo:=nP (hdst o (zX ho));have hsize:i<L.size:=by omega);have hnl:¬Lst L i:=λhl=>by rw[kQ oM true false] at h1;unfold Lst at hl;grind
    have hagree:∀ t,t∈fD ops o->bY ((ops.take k).take i) (pvs.take i) (zF T0) t=zF G t:=λt ht=>At.same D hpl (At.text D hlen i oM) hat λj oj hj hoj hd=>by rcases D.look i o t j oj hik hj ho hoj ht hd with⟨q1,q2⟩|⟨q1,q2⟩;{exact .inl ⟨q1,uP hcl ho hE q2⟩};{refine .inr ⟨by omega,λhl=>?_⟩;have:=uP hcl hoj (hcl j oj hoj hl) q2;grind}
    (have hLs:∀ j,Lst (L.setIfInBounds i true) j↔Lst L j\/j=i:=dK hsize;have hB:∀ e,(L.setIfInBounds i true).getD e false=(L.getD e false || nqb e i):=λe=>by have:=hLs e;unfold Lst at this;rw[rS,this,Kq,nqb_iff]);have hnext:∀ {a':Act} {w':World} {S':Nat->Nat->Prop} {β':Bm} {G':List (Nat×PV)} {objs3:List (Nat×Obj')},zF G'=upd (zF G) o.dst pvs[i]->Sim w0 S0 K0 N (zF (sS (PL (λe=>(L.setIfInBounds i true).getD e false) es) G')) objs3 a' w' S' β' ->
      (∀ y,y∈objs3↔VD es O0 X (λe=>(L.setIfInBounds i true).getD e false) y)->wpAny Pg .any ops.toArray Q fuel (L.setIfInBounds i true) a' w':=by
     intro a' w' S' β' G' objs3 hT hsim g1;refine ih (L.setIfInBounds i true) (by simpa using hsz) (λj hj hkj hl=>?_) (λj oj hoj hl=>?_) ?_ hsim g1 (by rw[hT];exact hat.step D hik ho hp λj=>dK hsize j);{rcases (dK hsize j).1 hl with hl|hl;{exact hge j hj hkj hl};{omega}};{intro e he hb;rw[dK hsize];rcases (dK hsize j).1 hl with hl|hl;{exact .inl (hcl j oj hoj hl e he hb)};{subst hl;rw[ho] at hoj;cases hoj;exact .inl (hE e he hb)}};{have:=U6 h1 hlt;omega}
    have hG':zF (put ⟨G,[]⟩ o.dst pvs[i]).tmps=upd (zF G) o.dst pvs[i]:=w7 _ _ _;have hlist:∀ e m,(e,m)∈es->L.getD e false=true->∃ oe,ops[e]?=some oe/\oe.dst=some m/\∃ s a b,zF G m=.osl m s a b:=λe m he hle=>by
     obtain⟨q1,q2,q3⟩:=hes e m he;have hoe:ops[e]?=some ops[e]:=j2 oM;have hpe:pvs[e]?=some pvs[e]:=j2 oM;cases hst e ops[e] pvs[e] (by rw[rT q1];exact hoe) hpe with
     |pure he' _ _=>rw[he'] at q3;cases q3
     |app he' hd hg h0' hpv _ _ _ _ _ =>
      rw[he'] at q3;cases q3;exact⟨_,hoe,hd,_,_,_,by rw[hat.hit e _ _ _ q1 hle hoe hpe hd,hpv]⟩
    have hPn:∀ n,yT es i=some n->yG n (PL (λe=>L.getD e false) es)=false:=λn hn=>by
     cases hx:yG n (PL (λe=>L.getD e false) es) with
     |false=>rfl| true =>
      obtain⟨e,q1,q2⟩:=dJ.1 (vE hx);have:=hinj (hes e n q1).2.2 hn;subst this;exact absurd q2 hnl
    have hstep:=hst i o pvs[i] (by rw[rT hik];exact ho) hp;generalize hPP:PL (λe=>L.getD e false) es=P at *;cases hstep with
    | @app n s o' l' x x0 he hd hg hget hpv hx0 hx hfix hgo hO =>
     (have hXx:X n=x:=hX i n x x0 hik he hget hO;have hin0:(n,x0)∈O0:=h0 i n x0 hik he hget;have hnP:=hPn n he;have hino:(n,x0)∈objs':=by rw[hin];refine⟨x0,hin0,?_⟩;show x0=scO (PL _ es) (match yG n (PL _ es) with|true=>X n|false=>x0);rw[hPP,hnP];exact (hx0 P).symm);have hgetr:yO objs' n=some x0:=uB h.obj.nd hino;have hfixr:∀ t,t∈fD ops o->zF (sS P G) t=bY ((ops.take k).take i) (pvs.take i) (zF T0) t:=λt ht=>by
      rw[qV,hagree t ht];cases hm:yG t P with
      |true=>rfl| false =>
       rw[<-hagree t ht];rcases hfix t ht with⟨a1,b1,c1,e⟩|e;{rw[e];simp only[scC,scA,hnP]};{exact e P}
     (have hmn:=(hes i n (jV he)).2.1;have hs0:=hgo (sS P G) objs' hfixr hgetr (Gg hmn _ _);have hPL:∀ m,yG m (PL (λe=>(L.setIfInBounds i true).getD e false) es)=yG m (n::P):=λm=>by rw[<-hPP];exact NI (jV he) (λm' hm'=>by have:=(hes i m' hm').2.2;rw[he] at this;cases this;rfl) hB m);refine nW ho (.inl ⟨by simp[Region.wanted,hg],sK (ps:=⟨sS P G,objs'⟩) h hs0 hdo λps' a' w' S' β' hK hsim=>?_⟩);obtain⟨hK1,hK2⟩:=hK;rw[hK2] at hsim;have hTT:zF ps'.tmps=zF (sS (PL (λe=>(L.setIfInBounds i true).getD e false) es) (put ⟨G,[]⟩ o.dst pvs[i]).tmps):=by
      (rw[hK1];funext t;rw[qV,hG',hd,hPL t];show (if t=n then pvs[i] else scr n (zF (sS P G) t))=match nqb n t || yG t P with|true=>(if t=n then pvs[i] else zF G t)|false=>scC _ (if t=n then pvs[i] else zF G t));by_cases htn:t=n
      {subst htn;rw[nqb_self,if_pos rfl,if_pos rfl];rfl}
      ·have:nqb n t=false:=by
        cases hx:nqb n t with
        |false=>rfl| true=>exact absurd (xC hx).symm htn
       rw[this,s6,if_neg htn,if_neg htn,qV];cases hm:yG t P with
       |true =>
        rw[<-hPP] at hm;obtain⟨e,q1,q2⟩:=dJ.1 (vE hm);obtain⟨oe,_,_,s1,a1,b1,e1⟩:=hlist e t q1 q2;show scr n (zF G t)=zF G t;rw[e1];simp only[scr,sc0];rw[show nqb t n=false by rw[K5];exact this]
       |false =>
        show scr n (scC P (zF G t))=scC _ (zF G t);rw[GS];exact (dR hPL _).symm
     (rw[hTT] at hsim;refine hnext hG' hsim λy=>?_;have hmemo:∀ z:Nat×Obj',z∈xO (scr n) (uD objs' n)↔∃ o1,(z.1,o1)∈objs'/\z.1≠n/\z.2=T6 n o1:=λz=>by constructor;{intro hz;obtain⟨o1,q1,q2⟩:=vJ (n:=z.1) (o:=z.2) _ hz;obtain⟨q3,q4⟩:=vK q1;exact⟨o1,q3,q4,q2⟩};{rintro⟨o1,q1,q2,q3⟩;have q4:=lL q1 q2;have:(z.1,T6 n o1)∈xO (scr n) (uD objs' n):=lJ (scr n) q4;rw[<-q3] at this;exact this});rw[uQ,kC,hmemo];unfold VD;have hsc:∀ o1:Obj',T6 n (scO P o1)=scO (n::P) o1:=λo1=>Yy _ _ _ (GS n P) o1;constructor
     ·rintro (⟨o1,q1,q2,q3⟩|q)
      ·rw[hin] at q1;obtain⟨o2,q4,q5⟩:=q1;simp only at q4 q5;refine⟨o2,q4,?_⟩;rw[hPP] at q5;rw[q3,q5,hsc,lA hPL,hPL];show _=scO (n::P) (match nqb n y.1 || yG y.1 P with|true=>X y.1|false=>o2);rw[show nqb n y.1=false by
        cases hx:nqb n y.1 with
        |false=>rfl| true=>exact absurd (xC hx).symm q2]
       rfl
      {subst q;refine⟨x0,hin0,?_⟩;rw[hPL,lA hPL];show x=scO (n::P) (match nqb n n || yG n P with|true=>X n|false=>x0);rw[nqb_self,Vp];show x=scO (n::P) (X n);rw[hXx,hx]}
     ·rintro⟨o2,q4,q5⟩;rw[hPL,lA hPL] at q5;by_cases hy:y.1=n;{right;have q6:y.2=scO (n::P) (match nqb n y.1 || yG y.1 P with|true=>X y.1|false=>o2):=q5;rw[hy,nqb_self,Vp] at q6;have q7:y.2=scO (n::P) (X n):=q6;rw[hXx,hx] at q7;cases y;simp only at hy q7;rw[hy,q7]}
      ·left;have hne:nqb n y.1=false:=by
        cases hx:nqb n y.1 with
        |false=>rfl| true=>exact absurd (xC hx).symm hy
       have q6:y.2=scO (n::P) (match nqb n y.1 || yG y.1 P with|true=>X y.1|false=>o2):=q5;rw[hne,s6] at q6;refine⟨scO P (match yG y.1 P with|true=>X y.1|false=>o2),?_,hy,?_⟩;{rw[hin];exact⟨o2,q4,by rw[hPP]⟩};{rw[q6,hsc]}
    |pure he hs1 hO =>
     have hPL:∀ m,yG m (PL (λe=>(L.setIfInBounds i true).getD e false) es)=yG m P:=λm=>by
      rw[<-hPP];refine Td (λe m' hm'=>?_) m;rw[hB];have:nqb e i=false:=by
       cases hx:nqb e i with
       |false=>rfl| true=>have:=xC hx;subst this;exact absurd hm' (Wq he)
      rw[this,Bool.or_false]
     have hsub:∀ m,yG m P=true->yG m (fG (anc ops) i es)=true:=λm hm=>by
      rw[<-hPP] at hm;obtain⟨e,q1,q2⟩:=dJ.1 (vE hm);refine pU (Ya.2 ⟨e,q1,?_⟩);cases hx:((anc ops).getD e 0).testBit i with
      |false=>rfl| true =>
       obtain⟨oe,hoe,_⟩:=hlist e m q1 q2;exact absurd (uP hcl hoe (hcl e oe hoe q2) hx) hnl
     have hweak:∀ t v,Rep w S β v (zF (sS P G) t)->Rep w S β v (scC (fG (anc ops) i es) (zF G t)):=λt v hr=>by
      rw[qV] at hr;cases hm:yG t P with
      |true=>rw[hm] at hr;exact lB hr| false =>
       rw[hm] at hr;have:=lB (P:=fG (anc ops) i es) hr;simp only at this;rw[KO hsub] at this;exact this
     have hobj:∀ n o',(n,o')∈xO (scC (fG (anc ops) i es)) (gC (kL es) O0)->∃ o,(n,o)∈objs'/\(ObjAt w S β n o->ObjAt w S β n o')/\(∀ i,j8 o i->j8 o' i)/\∀ b,Own β n o' b->Own β n o b:=λn o' hm=>by
      obtain⟨o1,q1,q2⟩:=(aD _).1 hm;simp only at q1 q2;obtain⟨q3,q4⟩:=Wh q1;have hnn:yG n P=false:=by
       cases hx:yG n P with
       |false=>rfl| true =>
        rw[<-hPP] at hx;obtain⟨e,r1,_⟩:=dJ.1 (vE hx);exact absurd (mV.2 ⟨e,r1⟩) q4
      refine⟨scO P o1,(hin _).2 ⟨o1,q3,by rw[hPP,hnn]⟩,λhat=>?_,λj hj=>?_,λb hb=>?_⟩;{rw[q2,<-KN hsub];exact CK hat};{rw[q2,<-KN hsub];exact GT hj};{rw[q2] at hb;exact Bu (qD hb)}
     (have hndl:((xO (scC (fG (anc ops) i es)) (gC (kL es) O0)).map Prod.fst).Nodup:=by rw[gU];exact (WV _ _).nodup hnd0);have hw2:=h.weak (τ':=λt=>scC (fG (anc ops) i es) (zF G t)) hweak hndl hobj;have hs2:pH false (xO (scC (fG (anc ops) i es)) (gC (kL es) O0)) ops o (λt=>scC (fG (anc ops) i es) (zF G t)) pvs[i]:=Yo (λt ht=>by rw[hagree t ht]) hs1;have hndst:∀ d,o.dst=some d->yG d P=false:=λd hd=>by
      cases hx:yG d P with
      |false=>rfl| true =>
       rw[<-hPP] at hx;obtain⟨e,q1,q2⟩:=dJ.1 (vE hx);obtain⟨oe,hoe,hde,_⟩:=hlist e d q1 q2;have hek:=(hes e d q1).1;have:=p6 D.dst (by rw[rT hek];exact hoe) (by rw[rT hik];exact ho) hde hd;subst this;exact absurd q2 hnl
     have hTT:upd (zF (sS P G)) o.dst (scC P pvs[i])=zF (sS (PL (λe=>(L.setIfInBounds i true).getD e false) es) (put ⟨G,[]⟩ o.dst pvs[i]).tmps):=by
      funext t;rw[qV,hG',hPL t];cases hd:o.dst with
      |none =>
       simp only[upd];rw[qV];cases yG t P with
       |true=>rfl| false=>exact (dR hPL _).symm
      |some d =>
       simp only[upd];by_cases htd:t=d;{subst htd;rw[if_pos rfl,if_pos rfl,hndst t hd];exact (dR hPL _).symm}
       ·rw[if_neg htd,if_neg htd,qV];cases yG t P with
        |true=>rfl| false=>exact (dR hPL _).symm
     (have hfin:∀ y,y∈objs'↔VD es O0 X (λe=>(L.setIfInBounds i true).getD e false) y:=λy=>by rw[hin y];exact eZ (λm=>by rw[hPP,hPL]) y);refine nW ho ?_;rcases aH hw2.tmp hs2 with⟨hw,hA⟩|⟨hw,hBB⟩
     {refine .inl ⟨hw,Xy hw2 hA λpv w' S' v hpv l hr=>?_⟩;refine hnext (S':=S') (β':=β) hG' ?_ hfin;rw[<-hTT];exact (h.go l).put o.dst hdo (lB (hr.le _ hpv))};{refine .inr ⟨hw,hnext (S':=S) (β':=β) hG' ?_ hfin⟩;rw[<-hTT];refine h.put o.dst hdo (lB ?_);rw[hBB];exact YX _ _ _}
theorem bN {m n:Nat}{x:Obj'}(hne:m≠n):∀ (l:List (Nat×Obj')),yO (setO l m x) n=yO l n
 |[]=>by show (match nqb m n with|true=>some x|false=>none)=none;grind [xC]| (u,v)::r=>by
  unfold setO;cases hu:nqb u m with
  |true =>
   grind [nqb,yO]
  |false =>
   show (match nqb u n with|true=>some v|false=>yO (setO r m x) n)=(match nqb u n with|true=>some v|false=>yO r n);rw[bN hne r]
section
variable {a:Act} {w:World} {S:Nat->Nat->Prop} {β:Bm}
theorem Qv (ops:List Oper)(l:List Bool):Region.ready .any ops.toArray l.toArray=Bg ops l:=by
 unfold Region.ready Bg;simp only[F9];congr 1;funext i;have e1:l.toArray.getD i true=l.getD i true:=by simp_all
 rw[e1];congr 1;rw[List.getElem?_toArray];cases ops[i]? with
 |none=>rfl| some o =>
  simp only[Option.map_some,YJ];unfold De;simp_all
theorem Cj {o:Oper}{a:Act}{w:World}{K:Act->World->Prop}{Q Q':Exit->Act->World->Prop}(h:∀ e a w,Q e a w->Q' e a w)(hh:o.wp Pg a w K Q):o.wp Pg a w K Q':=by
 unfold Oper.wp at *;generalize (execOp a.eval o).run Pg w=r at *;cases r with
 |ok n w' =>
  cases n with
  |enter f args =>
   rw[Oper.upon_enter] at *;refine hh.mono λe w'' q=>?_;cases e with
   |returned v=>exact q| panicked c=>grind| outgrown=>obtain⟨a',w1,q⟩:=q;exact⟨a',w1,h _ _ _ q⟩
  |_=>exact hh
 |halt x w' =>
  cases x with
  |panic v=>exact h _ _ _ hh| _=>exact hh
theorem Yn {ops:Array Oper}{Q Q':Exit->Act->World->Prop}(h:∀ e a w,Q e a w->Q' e a w):∀ (f:Nat) (l:Array Bool) (a:Act) (w:World),wpAny Pg .any ops Q f l a w->wpAny Pg .any ops Q' f l a w
 |0,l,a,w,hh=>⟨hh.1,h _ _ _ hh.2⟩| f+1,l,a,w,hh=>⟨λe=>h _ _ _ (hh.1 e),λi hi=>by
  have:=wpOp_mono (λa w=>Yn h f _ a w) (hh.2 i hi);unfold wpOp at *;split;{grind}
  ·rename_i o e;rw[e] at this;simp only at this;split;{rename_i hw;rw[if_pos hw] at this;rcases this with q|⟨q1,a',w1,q2⟩;{grind [Cj]};{exact .inr ⟨q1,a',w1,h _ _ _ q2⟩}};grind⟩
theorem AT {o:Oper}{τ:Nat->PV}(hc:Gp o τ=true)(he:∀ x,Rep w S β (a.eval x) (ev τ x)){objs:List (Nat×Obj')}{K:PV->Prop}(hs:sop objs o.op (ev τ) K):∃ pv v,K pv/\Rep w S β v pv/\∀ w',(execOp a.eval o).run Pg w'=.ok (.value v) w':=by unfold Gp at hc;split at hc;{rename_i x hop;rw[hop] at hs;exact⟨_,_,hs,he x,λw'=>by simp[execOp,hop]⟩};{rename_i x hop;rw[hop] at hs;have hx:=he x;split at hc;{rename_i n off e;rw[e] at hx;obtain⟨b,hβ,hv⟩:=kF hx;simp only[sop] at hs;rw[e] at hs;exact⟨_,_,hs,.ptr hβ,λw'=>by simp[execOp,hop,hv]⟩};grind};{rename_i t x i hop;rw[hop] at hs;have hx:=he x;split at hc;{rename_i n fs z n' off ht e;split at hc;{rename_i f hf;rw[e] at hx;obtain⟨b,hβ,hv⟩:=kF hx;obtain⟨o1,s1,g1⟩:=f;obtain⟨fields,fld,h1,h2,h3,h4,h5,h6⟩:=WK ht hf;simp only[sop] at hs;rw[ht,e] at hs;simp only[hf] at hs;refine⟨_,_,hs,.ptr hβ,λw'=>?_⟩;have:=cY (w:=w') ht hf b off;simp[execOp,hop,hv,this]};grind};{rename_i n fs z n' s' i' off ht e;split at hc;{rename_i f hf;rw[e] at hx;obtain⟨b,hβ,hv⟩:=jG hx;obtain⟨o1,s1,g1⟩:=f;obtain⟨fields,fld,h1,h2,h3,h4,h5,h6⟩:=WK ht hf;simp only[sop] at hs;rw[ht,e] at hs;simp only[hf] at hs;refine⟨_,_,hs,.aptr hβ,λw'=>?_⟩;have:=cY (w:=w') ht hf b (i' ()*s'+off);rw[ZG] at this;simp[execOp,hop,hv,this]};grind};grind};grind
theorem iX {ops:List Oper}{l:List Bool}{τ:Nat->PV}:∀ {r:List Nat} {j:Nat},V4 ops l τ r=some j->j∈r/\∃ o,ops[j]?=some o/\Gp o τ=true/\X5 o=true/\Region.free .any ops.toArray l.toArray j=true
 |[],j,h=>by cases h
 |i::r,j,h=>by
  unfold V4 at h;cases ho:ops[i]? with
  |none =>
   rw[ho] at h;have:=iX h;grind
  |some o =>
   rw[ho] at h;simp only at h;cases hc:Gp o τ&&X5 o&&Region.free .any ops.toArray l.toArray i with
   |false =>
    rw[hc] at h;have:=iX h;grind
   |true =>
    grind
theorem J9 {f:Nat->Prop}:∀ {r:List Nat},NG f r->∀ j,j∈r->f j
 |[],_,j,h=>by cases h
 |i::r,h,j,hj=>by rcases yI.1 hj with e|e;{rw[e];exact h.1};{exact J9 h.2 j e}
theorem o8 {o:Oper}(h:X5 o=true)(y:Nat->Option Value):o.guard=none:=by grind [X5]
theorem D9 {o:Oper}{ps:PS}{K:PS->Prop}(hc:Gp o (zF ps.tmps)=true)(h:nD o ps K):sop ps.objs o.op (ev (zF ps.tmps)) (λv=>K (put ps o.dst v)):=by unfold Gp at hc;split at hc;{rename_i x hop;unfold nD at h;simp_all};{rename_i x hop;unfold nD at h;rw[hop] at h ⊢;exact h};{rename_i t x i hop;unfold nD at h;rw[hop] at h ⊢;exact h};grind
theorem Ki {ops:List Oper}{K:PS->Prop}(hsel:Region.noSelect ops.toArray=true)(hdst:∀ o,o∈ops->nQ N o=true):∀ (f:Nat) (l:List Bool) (ps:PS) {a:Act} {w:World} {S:Nat->Nat->Prop} {β:Bm},Vf ops f l ps K->Sim w0 S0 K0 N (zF ps.tmps) ps.objs a w S β ->wpAny Pg .any ops.toArray (λe a w=>match e with|.normal=>∃ ps' S' β',K ps'/\Sim w0 S0 K0 N (zF ps'.tmps) ps'.objs a w S' β'|_=>False) f l.toArray a w
 |0,l,ps,a,w,S,β,hs,h=>by unfold Vf at hs;unfold wpAny;rw[Qv];grind| f+1,l,ps,a,w,S,β,hs,h=>by
  unfold Vf at hs;cases hr:Bg ops l with
  |nil =>
   rw[hr] at hs;exact wpAny_done (by rw[Qv,hr]) ⟨ps,S,β,hs,h⟩ _
  |cons i r =>
   (rw[hr] at hs;simp only at hs;have hd:∀ {o:Oper},o∈ops->∀ t,o.dst=some t->t<N:=λ{o} ho t ht=>by grind [nQ]);cases ht:V4 ops l (zF ps.tmps) (i::r) with
   |some j =>
    rw[ht] at hs;simp only at hs;obtain⟨hj,o,ho,hc,hg,hf⟩:=iX ht;unfold GM at hs;rw[ho] at hs;simp only[hg] at hs;have hg':=o8 hg (λ_=>none);obtain⟨pv,v,h1,h2,h3⟩:=AT (w:=w) (S:=S) (β:=β) (a:=a) hc (λx=>h.eval x) (D9 hc hs);refine wpAny_take (i:=j) (oi:=o) (v:=v) (by grind) hsel hf (by grind [Qv]) (λc a w q=>q.elim) (.inl ⟨by grind [Region.wanted],h3⟩) ?_;have:=Ki hsel hdst f (l.set j true) _ h1 (w6 h o.dst (hd (zX ho)) h2);grind
   |none =>
    rw[ht] at hs;simp only at hs;refine wpAny_all (rs:=i::r) (by rw[Qv,hr]) (by simp) λj hj=>?_;have hs':=J9 hs j hj;unfold GM at hs';unfold wpOp;rw[List.getElem?_toArray];cases ho:ops[j]? with
    |none=>grind| some o =>
     rw[ho] at hs';simp only at hs' ⊢;cases hg:X5 o with
     |false=>grind| true =>
      rw[hg] at hs';have hg':=o8 hg (λ_=>none);rw[if_pos (by grind [Region.wanted])];refine .inl (sK h hs' (hd (zX ho)) λps' a' w' S' β' hK hsim=>?_);have:=Ki hsel hdst f (l.set j true) ps' hK hsim;grind
end
theorem BN {ms:List (Nat×Obj')}{T:List (Nat×PV)}{P:Prop}(h:We ms T P):Jd T ms=true/\P:=by
 cases ms with
 |nil=>exact⟨rfl,h⟩| cons m r=>exact h
theorem Gl {ops:List Oper}{ps:PS}{K:PS->Prop}(hs:DrawK ops ps K){Q:Exit->Act->World->Prop}(hdst:∀ o,o∈ops->nQ N o=true)(hk:∀ ps' a' w' S' β',K ps'->Sim w0 S0 K0 N (zF ps'.tmps) ps'.objs a' w' S' β'->Q .normal a' w') {a:Act} {w:World} {S:Nat->Nat->Prop} {β:Bm} (h:Sim w0 S0 K0 N (zF ps.tmps) ps.objs a w S β):wpAny Pg .any ops.toArray Q ops.length (Array.replicate ops.length false) a w.drew:=by
 have hnone:∀ j,¬Lst (Array.replicate ops.length false) j:=by
  intro j hj;unfold Lst at hj;rcases qW j ops.length with h'|h'
  all_goals simp_all
 have hunl:∀ n,unl (Array.replicate ops.length false) n<=n:=by
  intro n;induction n with
  |zero=>exact yD _| succ n ih=>grind [unl]
 cases hs with
 |ef k es ps' hw hd he hm hs =>
  (obtain⟨S1,β1,h1⟩:=hw.sound h;have D:=YF hd;have hkl:k<=ops.length:=by rcases qW ops.length k with h'|h';{obtain⟨o,ho⟩:=D.full ops.length h';grind};omega);simp only[yK] at hm;simp only[Nr,yK,gG,Se] at he;obtain⟨he1,he2⟩:=he;have hinj:∀ {i j n},yT es i=some n->yT es j=some n->i=j:=λh1 h2=>Z0 he1 h1 h2;have hek:∀ i n,yT es i=some n->i<k:=λi n h=>QC (he2 _ (jV h)).1.1;have hmkE:∀ i o x,ops[i]?=some o->uA o=some x->yT es i=none:=λi o x ho hmk=>by
   cases hl:yT es i with
   |none=>rfl| some n =>
    have:=(he2 _ (jV hl)).1.2;grind
  have hanc:∀ i n j oj x,i<k->yT es i=some n->j<k->ops[j]?=some oj->uA oj=some (n,x)->((anc ops).getD i 0).testBit j=true:=λi n j oj x _ hi hj hoj hmk=>by have:=(he2 _ (jV hi)).2 j hj;simp only[hoj,hmk,nqb_self,Bool.not_true,s6] at this;omega
  (obtain⟨pvs,Ob,T2,g1,g2,g34,g5,g6⟩:=AI _ 0 hs;obtain⟨g3,g4⟩:=BN g34;have g6':∀ i o pv,(ops.take k)[i]?=some o->pvs[i]?=some pv->EfStep ops es (yL (ops.take k)) (gC (kL es) ps'.objs) i o (bY ((ops.take k).take i) (pvs.take i) (zF ps'.tmps)) pv (Ob i) (Ob (i+1)):=λi o pv q1 q2=>by grind);have hkt:(ops.take k).length=k:=by grind
  (have hms:=λx=>QJ (k:=k) (ops:=ops) (x:=x);have hndm:((ps'.objs++yL (ops.take k)).map Prod.fst).Nodup:=by rw[gH,YL];refine⟨h1.obj.nd,gZ hm.1,?_⟩;intro x hx y hy e;subst e;obtain⟨⟨m,o⟩,q1,rfl⟩:=xA.1 hx;obtain⟨⟨m',o'⟩,q2,e2⟩:=xA.1 hy;have:=Wd hm.2 q2;simp only[yV,yK] at this;exact (xT this.2 q1).1 e2.symm);have hop:∀ i,i<k->∃ o pv,ops[i]?=some o/\(ops.take k)[i]?=some o/\pvs[i]?=some pv:=λi hi=>by have q1:ops[i]?=some ops[i]:=j2 oM;exact⟨_,_,q1,by grind,j2 oM⟩
  have hnm:∀ i,i<=k->(Ob i).map Prod.fst=(ps'.objs++yL (ops.take i)).map Prod.fst:=by
   intro i;induction i with
   |zero=>intro _;rw[g2];simp[yL]| succ i ih =>
    (intro hi;obtain⟨o,pv,q1,q2,q3⟩:=hop i oM;have ih:=ih oM;have e:ops.take (i+1)=ops.take i++[o]:=by rw[dI,q1];rfl);rw[e,gM]
    cases g6' i o pv q2 q3 with
    |mk hmk _ hO=>rw[hO,gH,ih];grind [yL]| eff hmk _ h0 _ _ _ hO=>rw[hO,qK (xA.2 ⟨_,xL h0,rfl⟩),ih];simp[yL,hmk]| pure hmk _ _ hO=>grind [yL]
  have hnd:∀ i,i<=k->((Ob i).map Prod.fst).Nodup:=λi hi=>by
   (rw[hnm i hi];have e:ops.take k=ops.take i++(ops.take k).drop i:=by have:=Sd i (ops.take k);grind);rw[e,gM,<-Ha,gH] at hndm;grind
  obtain⟨X,hXd⟩:∃ X:Nat->Obj',∀ i n x,yT es i=some n->yO (Ob (i+1)) n=some x->X i=x:=⟨λi=>((yT es i).bind (yO (Ob (i+1)))).getD (.box []),λi n x q1 q2=>by grind⟩;have hX:∀ i n x,i<k->yT es i=some n->(n,x)∈Ob (i+1)->X i=x:=λi n x hi q1 q2=>hXd i n x q1 (uB (hnd (i+1) oM) q2);have hXin:∀ i n x0 x,yO (Ob i) n=some x0->(n,x)∈setO (Ob i) n x:=λi n x0 x q=>aC (xA.2 ⟨_,xL q,rfl⟩);have hOb:∀ i,i<=k->∀ y,y∈Ob i↔EMem ops es k ps'.objs X (λj=>j<i) y:=by
   intro i;induction i with
   |zero =>
    intro _ y;rw[g2];unfold EMem;constructor;{grind};grind
   |succ i ih =>
    (intro hi y;obtain⟨o,pv,q1,q2,q3⟩:=hop i oM;have ih:=ih oM;have hL:∀ j,j<i+1↔j<i\/j=i:=λj=>by omega);cases g6' i o pv q2 q3 with
    | @mk d x hmk _ hO =>
     have hno:∀ j,j<k->yT es j=some d->¬j<i:=λj hj hje hji=>by
      (have hjo:ops[j]?=some ops[j]:=j2 oM;have hL:∀ a oa,ops[a]?=some oa->a<j->nV (λb=>b<j) oa:=λa oa hoa haj e he hb=>by have:=D.back a oa hoa e he hb;omega);have:i<j:=uP (L:=λb=>b<j) hL hjo (λe he hb=>D.back j _ hjo e he hb) (hanc j d i o x hj hje oM q1 hmk);omega
     rw[hO,uQ,kC,EMem.mk q1 oM hmk (hmkE i o _ q1 hmk) hno hL y,ih y]
    | @eff n x x0 hmk he h0 _ _ _ hO =>
     have hxX:X i=x:=hX i n x oM he (by rw[hO];exact hXin _ _ _ _ h0);obtain⟨y1,y2⟩:=y;rw[hO,Zc (hnd i oM) (xA.2 ⟨_,xL h0,rfl⟩),EMem.eff hinj q1 oM hmk he hL,ih,hxX]
    |pure hmk he _ hO=>rw[hO,EMem.pure q1 hmk he hL y,ih y]
  (rw[hkt] at g4;have hEM0:∀ y,y∈ps'.objs↔EMem ops es k ps'.objs X (Lst (Array.replicate ops.length false)) y:=λy=>by unfold EMem;constructor;{intro q;exact .inl ⟨.inl q,λ⟨j,_,_,q⟩=>hnone j q⟩};{rintro (⟨q|⟨j,oj,_,q,_⟩,_⟩|⟨j,_,_,q,_⟩);{exact q};{grind};grind});refine Nt (T0:=ps'.tmps) (T2:=T2) (O0:=ps'.objs) (O2:=Ob k) (pvs:=pvs) (es:=es) (ms:=yL (ops.take k)) (lim:=gC (kL es) ps'.objs) (X:=X) (Ob:=Ob) D hdst hk hkl (by rw[g1]) g4 g5 (hOb k (yD _)) (hnd k (yD _)) hms ?_ ?_ hinj hmkE hanc (λi hi=>hOb i oM) g6' hX hXin
   ops.length _ (by simp) (λj _ _=>hnone j) (λi o _ hl=>absurd hl (hnone i)) (hunl _) (h1.go (sX h1.ld.bnd)) hEM0 ⟨λj o t pv _ hl=>absurd hl (hnone j),λt _=>rfl⟩
  {intro n x hx;have q1:=Wd hm.2 hx;simp only[yV,yK] at q1;exact⟨jH q1.2,qI q1.1,λm o q=>xT q1.2 q,λt ht=>Je ht (Uo g3 hx)⟩};{intro n o q;obtain⟨q1,q2⟩:=UL _ q;refine⟨xL q2,λi hi=>?_⟩;rw[pU (Xz (jV hi))] at q1;cases q1}
 |ap k es ps' hw hd he hs =>
  (obtain⟨S1,β1,h1⟩:=hw.sound h;have D:=YF hd;have hkl:k<=ops.length:=by rcases qW ops.length k with h'|h';{obtain⟨o,ho⟩:=D.full ops.length h';grind};omega);simp only[NE,yK,gG] at he;obtain⟨he1,he2⟩:=he;have hinj:∀ {i j n},yT es i=some n->yT es j=some n->i=j:=λh1 h2=>Z0 he1 h1 h2;have hes:∀ e m,(e,m)∈es->e<k/\m<1000000/\yT es e=some m:=λe m hm=>by
   obtain⟨⟨q1,q2⟩,q3⟩:=he2 _ hm;refine⟨QC q1,QC q2,?_⟩;cases hl:yT es e with
   |none=>grind| some n=>simp only[hl] at q3;rw[xC q3]
  (obtain⟨pvs,Ob,T2,g1,g2,g3,g5,g6⟩:=A6 _ 0 hs;have g6':∀ i o pv,(ops.take k)[i]?=some o->pvs[i]?=some pv->ApStep ops es (anc ops) (gC (kL es) ps'.objs) i o (bY ((ops.take k).take i) (pvs.take i) (zF ps'.tmps)) pv (Ob i) (Ob (i+1)):=λi o pv q1 q2=>by grind);have hkt:(ops.take k).length=k:=by grind
  (have hop:∀ i,i<k->∃ o pv,ops[i]?=some o/\(ops.take k)[i]?=some o/\pvs[i]?=some pv:=λi hi=>by have q1:ops[i]?=some ops[i]:=j2 oM;exact⟨_,_,q1,by grind,j2 oM⟩);have hnm:∀ i,i<=k->(Ob i).map Prod.fst=ps'.objs.map Prod.fst:=by
   intro i;induction i with
   |zero=>grind| succ i ih =>
    intro hi;obtain⟨o,pv,q1,q2,q3⟩:=hop i oM;have ih:=ih oM;cases g6' i o pv q2 q3 with
    |app _ _ _ h0 _ _ _ _ _ hO=>rw[hO,qK (xA.2 ⟨_,xL h0,rfl⟩),ih]| pure _ _ hO=>grind
  have hnd:∀ i,i<=k->((Ob i).map Prod.fst).Nodup:=λi hi=>by rw[hnm i hi];exact h1.obj.nd
  
  have hbef:∀ i,i<=k->∀ n,(∀ j,yT es j=some n->i<=j)->yO (Ob i) n=yO ps'.objs n:=by
   intro i;induction i with
   |zero=>grind| succ i ih =>
    intro hi n hn;obtain⟨o,pv,q1,q2,q3⟩:=hop i oM;have ih:=ih oM n (λj hj=>by grind);cases g6' i o pv q2 q3 with
    | @app m _ _ _ _ _ he' _ _ _ _ _ _ _ _ hO =>
     grind [bN]
    |pure _ _ hO=>grind
  have haft:∀ d i,i+d<=k->∀ n,(∀ j,yT es j=some n->j<i)->yO (Ob (i+d)) n=yO (Ob i) n:=by
   intro d;induction d with
   |zero=>grind| succ d ih =>
    intro i hi n hn;obtain⟨o,pv,q1,q2,q3⟩:=hop (i+d) oM;have ih:=ih i oM n hn;cases g6' (i+d) o pv q2 q3 with
    | @app m _ _ _ _ _ he' _ _ _ _ _ _ _ _ hO =>
     rw[show i+(d+1)=i+d+1 by omega,hO,bN (λe=>?_),ih];grind
    |pure _ _ hO=>grind
  have hX:∀ i n x x0,i<k->yT es i=some n->yO (Ob i) n=some x0->Ob (i+1)=setO (Ob i) n x->(yO (Ob k) n).getD (.box [])=x:=λi n x x0 hi he' h0 hO=>by
   (have e1:yO (Ob (i+1)) n=some x:=by refine uB (hnd _ oM) ?_;rw[hO];exact aC (xA.2 ⟨_,xL h0,rfl⟩));have e2:=haft (k-(i+1)) (i+1) oM n (λj hj=>by grind);rw[show i+1+(k-(i+1))=k by omega,e1] at e2;grind
  have hfinO:∀ y,y∈xO (scC (kL es)) (Ob k)↔VD es ps'.objs (λn=>(yO (Ob k) n).getD (.box [])) (λj=>decide (j<k)) y:=λy=>by
   (have hPS:∀ m,yG m (PL (λj=>decide (j<k)) es)=yG m (kL es):=λm=>by rw[rS,gY,gY,dJ,mV];grind);rw[aD];unfold VD;rw[hPS,Hz hPS];have hname:∀ n,(∃ o,(n,o)∈Ob k)↔∃ o,(n,o)∈ps'.objs:=λn=>by
    (have e:∀ l:List (Nat×Obj'),(∃ o,(n,o)∈l)↔n∈l.map Prod.fst:=λl=>by grind);grind
   cases hy:yG y.1 (kL es) with
   |true =>
    constructor;{rintro⟨o,q1,q2⟩;obtain⟨o',q3⟩:=(hname _).1 ⟨o,q1⟩;refine⟨o',q3,?_⟩;show y.2=scO (kL es) ((yO (Ob k) y.1).getD (.box []));rw[uB (hnd k (yD _)) q1];exact q2};{rintro⟨o,q1,q2⟩;obtain⟨o',q3⟩:=(hname _).2 ⟨o,q1⟩;refine⟨o',q3,?_⟩;have q2':y.2=scO (kL es) ((yO (Ob k) y.1).getD (.box [])):=q2;rw[uB (hnd k (yD _)) q3] at q2';exact q2'}
   |false =>
    (have hnn:∀ j,yT es j=some y.1->k<=j:=λj hj=>by grind [pU,mV,jV]);have hg:=hbef k (yD _) y.1 hnn
    constructor;{rintro⟨o,q1,q2⟩;rw[uB (hnd k (yD _)) q1] at hg;grind [xL]};grind [uB,xL]
  have hP0:PL (λi=>(Array.replicate ops.length false).getD i false) es=[]:=by
   (have:∀ m,m∉PL (λi=>(Array.replicate ops.length false).getD i false) es:=λm hm=>by obtain⟨e,_,q⟩:=dJ.1 hm;exact hnone e q);exact List.eq_nil_iff_forall_not_mem.2 this
  rw[hkt] at g3;refine Ns (T0:=ps'.tmps) (T2:=T2) (O0:=ps'.objs) (O2:=xO (scC (kL es)) (Ob k)) (pvs:=pvs) (es:=es) (X:=λn=>(yO (Ob k) n).getD (.box [])) (Ob:=Ob) D hdst hk hkl (by rw[g1]) g3 g5 hfinO (by rw[gU];grind) hes hinj g6'
   (λi n x0 hi he' h0=>by rw[hbef i oM n (λj hj=>by grind)] at h0;exact xL h0) hX h1.obj.nd
   ops.length (Array.replicate ops.length false) (G:=ps'.tmps) (objs':=xO (scC []) ps'.objs) (S:=S1) (β:=β1) (by simp) (λj _ _=>hnone j) (λi o _ hl=>absurd hl (hnone i)) (hunl _) ?_ ?_ ⟨λj o t pv _ hl=>absurd hl (hnone j),λt _=>rfl⟩
  {refine ((h1.go (sX h1.ld.bnd))).weak (λt v hr=>?_) (by grind [gU]) λn o' hm=>?_;{rw[hP0,qV];exact lB hr};{obtain⟨o1,q1,q2⟩:=(aD _).1 hm;simp only at q1 q2;exact⟨o1,q1,λh=>by rw[q2];exact CK h,λi h=>by rw[q2];exact GT h,λb hb=>by rw[q2] at hb;exact qD hb⟩}};{intro y;rw[aD];unfold VD;rw[hP0];rfl}
 |br σ inv good ps' hw hsel hs hks =>
  obtain⟨S1,β1,h1⟩:=hw.sound h;have:=Ki hsel hdst ops.length _ ps' hs (h1.go (sX h1.ld.bnd));rw[List.toArray_replicate] at this;refine Yn (λe a w q=>?_) _ _ _ _ this;cases e with
  |normal=>obtain⟨ps2,S2,β2,⟨s,q0,q1⟩,q2⟩:=q;obtain⟨S3,β3,q3⟩:=q1.sound q2;grind
  |_=>exact q.elim
end
end Go.Proofs.YtaeaffgjdcigoaaGreat
