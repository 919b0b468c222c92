/- A part of the proof: SxM, SyA, SyB, SyC. -/
import Derived.Test.YtfainocfaddbdaaGreatZ30
import Derived.Test.YtfainocfaddbdaaGreatZ27
import Derived.Test.YtfainocfaddbdaaGreatZ29
set_option linter.all false
namespace Go.Proofs.YtfainocfaddbdaaGreat
open Go
set_option maxRecDepth 100000
set_option maxHeartbeats 4000000
structure SolR where
 st:Nat
 val:Rat
 pt:List Rat
 du:List Rat
 ry:List Rat
 bas:List Nat
 pv:Nat
def fT (v:Nat) (ob:List Rat):List Nat->Nat->Option Nat
 |[],_=>none| y::ys,e=>if y<v/\ob.getD e 0≠0 then some e else fT v ob ys (e+1)
def cS (v r:Nat) (D0:Dic):Option SolR :=
 match vF v r (rel v D0.nb 0 (D0,0)).1 (rel v D0.nb 0 (D0,0)).2 with
 |(_,_,_,false)=>none| (_,q,some l,true)=>some ⟨2,0,[],l,[],[],q⟩| (E,q,none,true) =>
  match fT v E.ob E.nb 0 with
  |some e=>some ⟨3,0,pnt v E,[],cV v E e (((-(yX (E.ob.getD e 0)):Int):Rat)),[],q⟩| none =>
   match wR v Dic.ob (65537-q) E q with
   |(_,_,_,false)=>none| (F,q',e,true)=>if 0<=e then some ⟨3,0,pnt v F,[],cV v F e.toNat 1,[],q'⟩ else some ⟨1,F.ob.getD F.nb.length 0,pnt v F,tM v r F.nb F.ob,[],F.bs,q'⟩
theorem aI {v:Nat}{ob:List Rat}{nb:List Nat}:∀ {ys:List Nat} {j e:Nat},nb.drop j=ys->fT v ob ys j=some e->e<nb.length/\nb.getD e 0<v/\ob.getD e 0≠0
 |[],j,e,hd,h=>by cases h
 |y::ys,j,e,hd,h=>by
  rw[fT] at h;have hy:nb[j]?=some y:=by
   (have h1:(nb.drop j)[0]?=some y:=by rw[hd];rfl);rw[List.getElem?_drop,Nat.add_zero] at h1
   exact h1
  split at h;{rename_i hc;cases h;exact⟨yK hy,by rw[getD_some hy];exact hc.1,hc.2⟩};{exact aI (by rw[<-List.tail_drop,hd];rfl) h}
theorem nH {v:Nat}{ob:List Rat}{nb:List Nat}:∀ {ys:List Nat} {j:Nat},nb.drop j=ys->fT v ob ys j=none->∀ e,j<=e->e<nb.length->nb.getD e 0<v->ob.getD e 0=0
 |[],j,hd,h,e,hje,he,hv=>by have:=congrArg List.length hd;simp at this;omega| y::ys,j,hd,h,e,hje,he,hv=>by
  rw[fT] at h;have hy:nb[j]?=some y:=by
   (have h1:(nb.drop j)[0]?=some y:=by rw[hd];rfl);rw[List.getElem?_drop,Nat.add_zero] at h1
   exact h1
  split at h;{cases h};{rename_i hc;by_cases hej:e=j;{subst hej;rw[getD_some hy] at hv;exact Classical.byContradiction fun q=>hc ⟨hv,q⟩};{exact nH (by rw[<-List.tail_drop,hd];rfl) h e (by omega) he hv}}
theorem mE {v:Nat}{f:Nat->Rat}{bs:List Nat}(hn:bs.Nodup):∀ {ys:List Nat} {i:Nat} {x:List Rat},bs.drop i=ys->x.length=v->∀ j,j<v ->(dE v f ys i x).getD j 0=if j∈ys then f (bs.idxOf j) else x.getD j 0
 |[],i,x,hd,hx,j,hj=>by simp[dE]| b::ys,i,x,hd,hx,j,hj=>by
  have hb:bs[i]?=some b:=by
   (have h1:(bs.drop i)[0]?=some b:=by rw[hd];rfl);rw[List.getElem?_drop,Nat.add_zero] at h1
   exact h1
  (have hd':bs.drop (i+1)=ys:=by rw[<-List.tail_drop,hd];rfl);have hnd:(b::ys).Nodup:=by rw[<-hd];exact (List.drop_sublist _ _).nodup hn
  have hidx:bs.idxOf b=i:=by
   (have h2:b∈bs:=List.mem_of_getElem? hb;have h3:bs[bs.idxOf b]?=some b:=by rw[List.getElem?_eq_getElem (List.idxOf_lt_length_iff.2 h2),List.getElem_idxOf]);exact v4 hn h3 hb
  rw[dE,mE hn hd' (by split <;> simp[hx]) j hj];by_cases hjb:j=b;{subst hjb;rw[if_neg (List.nodup_cons.1 hnd).1,if_pos List.mem_cons_self,if_pos hj,List.getD_eq_getElem?_getD,List.getElem?_set,if_pos rfl,if_pos (by omega),hidx];rfl};{by_cases hjy:j∈ys;{rw[if_pos hjy,if_pos (List.mem_cons_of_mem _ hjy)]};{rw[if_neg hjy,if_neg (fun q=>(List.mem_cons.1 q).elim hjb hjy)];split;{rw[List.getD_eq_getElem?_getD,List.getElem?_set_ne (fun q=>hjb q.symm),List.getD_eq_getElem?_getD]};{rfl}}}
theorem mD {v:Nat}{f:Nat->Rat}:∀ {ys:List Nat} {i:Nat} {x:List Rat},(dE v f ys i x).length=x.length
 |[],_,_=>rfl| b::ys,i,x=>by rw[dE,mD];split <;> simp
theorem zM7 {v:Nat}{D:Dic}:(pnt v D).length=v:=by unfold pnt;rw[mD,List.length_replicate]
theorem zJT {v e:Nat}{D:Dic}{k:Rat}:(cV v D e k).length=v:=by unfold cV;rw[mD];split <;> simp
section
variable {D:Dic} {v:Nat}
theorem Dic.idx_bs {j:Nat}(h:j∈D.bs):D.bs[D.bs.idxOf j]?=some j:=by rw[List.getElem?_eq_getElem (List.idxOf_lt_length_iff.2 h),List.getElem_idxOf]
theorem zM8 (h:D.wf){j:Nat}(hj:j<v)(hm:j∈D.bs\/j∈D.nb):(pnt v D).getD j 0=D.ext (fun _=>0) j:=by unfold pnt;rw[mE (bs:=D.bs) (ys:=D.bs) (i:=0) h.bs rfl (by simp) j hj];by_cases hb:j∈D.bs;{rw[if_pos hb,<-Dic.zero_bs h (y:=D.ext fun _=>0) (fun y hy=>Dic.ext_nb h _ hy) (Dic.idx_bs hb) (Dic.ext_sat h _)]};{rw[if_neg hb,Dic.ext_nb h _ (hm.resolve_left hb),List.getD_eq_getElem?_getD,List.getElem?_replicate];split <;> rfl}
def Dic.bas (D:Dic) (e:Nat) (k:Rat):Nat->Rat:=D.ext fun u=>if u=D.nb.getD e 0 then k else 0
theorem Dic.bas_sat (h:D.wf)(e:Nat)(k:Rat):D.Sat (D.bas e k):=Dic.ext_sat h _
theorem Dic.bas_nb (h:D.wf){e j:Nat}{k:Rat}(he:e<D.nb.length)(hj:j<D.nb.length):D.bas e k (D.nb.getD j 0)=if j=e then k else 0:=by unfold Dic.bas;rw[Dic.ext_nb h _ (yN hj)];by_cases hje:j=e;{rw[if_pos hje,hje,if_pos rfl]};{rw[if_neg hje,if_neg fun q=>hje (v4 h.nb (yL hj) (by rw[q];exact yL he))]}
theorem Dic.bas_bs (h:D.wf){e i:Nat}{k:Rat}(he:e<D.nb.length)(hi:i<D.bs.length):D.bas e k (D.bs.getD i 0)=D.at i e*k+D.cst i:=by have:=Dic.one_bs h (y:=D.bas e k) he (fun j hj hne=>by rw[Dic.bas_nb h he hj,if_neg hne]) (yL (d:=0) hi) (Dic.bas_sat h e k);rw[this,Dic.bas_nb h he he,if_pos rfl]
theorem Dic.bas0 (h:D.wf)(e:Nat):D.bas e 0=D.ext fun _=>0:=by unfold Dic.bas;congr 1;funext u;split <;> rfl
theorem zJU (h:D.wf){e j:Nat}{k:Rat}(he:e<D.nb.length)(hj:j<v)(hm:j∈D.bs\/j∈D.nb):(cV v D e k).getD j 0=D.bas e k j-D.ext (fun _=>0) j:=by
 have hx:(if D.nb.getD e 0<v then (List.replicate v (0:Rat)).set (D.nb.getD e 0) k else List.replicate v 0).length=v:=by split <;> simp
 unfold cV;rw[mE (bs:=D.bs) (ys:=D.bs) (i:=0) h.bs rfl hx j hj];by_cases hb:j∈D.bs;{have hi:=Dic.idx_bs hb;have hil:=yK hi;have e1:=Dic.bas_bs h (k:=k) he hil;have e0:=Dic.bas_bs h (k:=0) he hil;rw[Dic.bas0 h] at e0;rw[getD_some hi] at e1 e0;rw[if_pos hb,e1,e0];grind}
 ·have hmn:=hm.resolve_left hb;rw[if_neg hb,Dic.ext_nb h _ hmn];obtain⟨q,hq⟩:=xL hmn;have hql:=yK hq;have e1:=Dic.bas_nb h (k:=k) he hql;rw[getD_some hq] at e1;rw[e1];by_cases hqe:q=e
  ·(have hje:D.nb.getD e 0=j:=by rw[<-hqe,getD_some hq]);rw[if_pos hqe,hje,if_pos hj,List.getD_eq_getElem?_getD,List.getElem?_set,if_pos rfl,if_pos (by simpa using hj)]
   simp only[Option.getD_some];grind
  {have hje:D.nb.getD e 0≠j:=fun w=>hqe (v4 h.nb hq (by rw[<-w];exact yL he));rw[if_neg hqe];split;{rw[List.getD_eq_getElem?_getD,List.getElem?_set_ne hje,List.getElem?_replicate];split <;> simp <;> grind};{rw[List.getD_eq_getElem?_getD,List.getElem?_replicate];split <;> simp <;> grind}}
end
def zY (v:Nat) (rows:List (List Rat)) (ob:List Rat):Dic:=⟨(List.range rows.length).map (v+·),List.range v,rows,ob⟩
theorem pF {v k:Nat}{rows:List (List Rat)}{ob:List Rat}(hk:k<rows.length):(zY v rows ob).bs[k]?=some (v+k):=by show ((List.range rows.length).map (v+·))[k]?=_;rw[List.getElem?_map,List.getElem?_range hk];rfl
theorem jX {v:Nat}{rows:List (List Rat)}{ob:List Rat}(hr:∀ l,l∈rows->l.length=v+1)(ho:ob.length=v+1):(zY v rows ob).wf where
 len:=by simp[zY]
 row i l hl:=by rw[hr l (List.mem_of_getElem? hl)];simp[zY]
 ob:=by rw[show (zY v rows ob).ob=ob from rfl,ho];simp[zY]
 nd:=by show ((List.range rows.length).map (v+·)++List.range v).Nodup;rw[List.nodup_append];refine⟨List.Pairwise.map _ (fun a b (h:a≠b)=>(by omega:v+a≠v+b)) List.nodup_range,List.nodup_range,fun x hx y hy e=>?_⟩;obtain⟨k,_,rfl⟩:=List.mem_map.1 hx;have:=List.mem_range.1 hy;omega
def atX (v:Nat) (x:Nat->Rat) (l:List Rat):Rat:=dot x (List.range v) l
theorem dS {v:Nat}{rows:List (List Rat)}{ob:List Rat}{X:Nat->Rat}:(zY v rows ob).Sat X↔∀ (k:Nat) l,rows[k]?=some l->X (v+k)=atX v X l:=by constructor;{intro h k l hl;exact h k (v+k) l (pF (yK hl)) hl};{intro h k b l hb hl;have hl':rows[k]?=some l:=hl;rw[pF (yK hl')] at hb;cases hb;exact h k l hl'}
theorem sK {v:Nat}{x y:Nat->Rat}{l:List Rat}(h:∀ j,j<v->x j=y j):atX v x l=atX v y l:=kS fun j hj=>h j (List.mem_range.1 hj)
def full (v:Nat) (rows:List (List Rat)) (x:Nat->Rat):Nat->Rat:=fun y=>if y<v then x y else atX v x (rows.getD (y-v) [])
theorem zBW {v j:Nat}{rows:List (List Rat)}{x:Nat->Rat}(h:j<v):full v rows x j=x j:=if_pos h
theorem c8 {v k:Nat}{rows:List (List Rat)}{x:Nat->Rat}{l:List Rat}(h:rows[k]?=some l):full v rows x (v+k)=atX v x l:=by unfold full;rw[if_neg (by omega),show v+k-v=k by omega,getD_some h]
theorem cF {v:Nat}{rows:List (List Rat)}{ob:List Rat}{x:Nat->Rat}:(zY v rows ob).Sat (full v rows x):=dS.2 fun k l hl=>by rw[c8 hl];exact sK fun j hj=>(zBW hj).symm
theorem zD0 {v:Nat}{rows:List (List Rat)}{ob:List Rat}{x:Nat->Rat}:(zY v rows ob).val (full v rows x)=atX v x ob:=sK fun j hj=>zBW hj
def toX (l:List Rat):Nat->Rat:=fun j=>l.getD j 0
structure SolOk (v:Nat) (rows:List (List Rat)) (ob:List Rat) (s:SolR):Prop where
 opt:s.st=1->s.pt.length=v/\(∀ l,l∈rows->0<=atX v (toX s.pt) l)/\atX v (toX s.pt) ob=s.val/\s.du.length=rows.length/\(∀ c,c∈s.du->0<=c)/\(∀ x:Nat->Rat,atX v x ob=j8 s.du (fun k=>atX v x (rows.getD k []))+s.val)/\s.ry=[]
 inf:s.st=2->s.pt=[]/\s.ry=[]/\s.val=0/\s.du.length=rows.length/\(∀ c,c∈s.du->0<=c)/\∃ k:Rat,0<k/\∀ x:Nat->Rat,j8 s.du (fun k=>atX v x (rows.getD k []))+k=0
 unb:s.st=3->s.du=[]/\s.val=0/\s.pt.length=v/\s.ry.length=v/\(∀ l,l∈rows->0<=atX v (toX s.pt) l)/\(∀ l,l∈rows->0<=atX v (toX s.ry) l-atX v (fun _=>0) l)/\atX v (toX s.ry) ob-atX v (fun _=>0) ob<0
 one:s.st=1\/s.st=2\/s.st=3
theorem zHI {X Y Z W:Nat->Rat}:∀ {nb:List Nat} {l:List Rat},(∀ y,y∈nb->X y-Y y=Z y-W y)->dot X nb l-dot Y nb l=dot Z nb l-dot W nb l
 |[],l,h=>by unfold dot;rw[Rat.sub_self]| v::vs,l,h=>by
  have ih:=zHI (l:=l.tail) fun y hy=>h y (List.mem_cons_of_mem _ hy);have h0:=h v List.mem_cons_self;simp only[dot];generalize dot X vs l.tail=a at *
  generalize dot Y vs l.tail=b at *
  generalize dot Z vs l.tail=c at *
  generalize dot W vs l.tail=d at *
  (have:l.headD 0*(X v-Y v)=l.headD 0*(Z v-W v):=by rw[h0]);grind
section
variable {v:Nat} {rows:List (List Rat)} {ob:List Rat} {E:Dic}
theorem zF0 (hr:∀ l,l∈rows->l.length=v+1)(ho:ob.length=v+1)(hE:Feas v (zY v rows ob) E):(pnt v E).length=v/\(∀ (j:Nat),j<v->toX (pnt v E) j=E.ext (fun _=>0) j)/\(∀ l,l∈rows->0<=atX v (toX (pnt v E)) l)/\atX v (toX (pnt v E)) ob=E.ob.getD E.nb.length 0/\(∀ (k:Nat) l,rows[k]?=some l->atX v (toX (pnt v E)) l=E.ext (fun _=>0) (v+k)):=by
 have hmem:∀ j,j<v->j∈E.bs\/j∈E.nb:=fun j hj=>(hE.same.vars j).2 (.inr (List.mem_range.2 hj));have hpt:∀ (j:Nat),j<v->toX (pnt v E) j=E.ext (fun _=>0) j:=fun j hj=>zM8 hE.wf hj (hmem j hj);have hQ:=(hE.same.sat _).1 (Dic.ext_sat hE.wf fun _=>0);have hrow:∀ (k:Nat) l,rows[k]?=some l->atX v (toX (pnt v E)) l=E.ext (fun _=>0) (v+k):=fun k l hl=>by rw[dS.1 hQ k l hl];exact sK hpt
 refine⟨zM7,hpt,fun l hl=>?_,?_,hrow⟩;{obtain⟨k,hk⟩:=xL hl;rw[hrow k l hk];rcases (hE.same.vars (v+k)).2 (.inl (List.mem_of_getElem? (pF (v:=v) (ob:=ob) (yK hk)))) with q|q;{have hi:=Dic.idx_bs q;rw[Dic.zero_bs hE.wf (fun y hy=>Dic.ext_nb hE.wf _ hy) hi (Dic.ext_sat hE.wf _)];exact hE.feas _ (yK hi) (by rw[getD_some hi];simp[frV])};{rw[Dic.ext_nb hE.wf _ q];exact Rat.le_refl}};{have e1:atX v (toX (pnt v E)) ob=(zY v rows ob).val (E.ext fun _=>0):=sK hpt;rw[e1,<-hE.val _ hQ];exact k9 fun y hy=>Dic.ext_nb hE.wf _ hy}
theorem zFZ (hr:∀ l,l∈rows->l.length=v+1)(ho:ob.length=v+1)(hE:Feas v (zY v rows ob) E){e:Nat}{k:Rat}(he:e<E.nb.length)(hk:E.ob.getD e 0*k<0)(hs:v<=E.nb.getD e 0->0<=k)(hc:∀ i,i<E.bs.length->v<=E.bs.getD i 0->0<=E.at i e*k):(cV v E e k).length=v/\(∀ l,l∈rows->0<=atX v (toX (cV v E e k)) l-atX v (fun _=>0) l)/\atX v (toX (cV v E e k)) ob-atX v (fun _=>0) ob<0:=by
 have hmem:∀ j,j<v->j∈E.bs\/j∈E.nb:=fun j hj=>(hE.same.vars j).2 (.inr (List.mem_range.2 hj));have hry:∀ (j:Nat),j<v->toX (cV v E e k) j=E.bas e k j-E.ext (fun _=>0) j:=fun j hj=>zJU hE.wf he hj (hmem j hj);have hP:=(hE.same.sat _).1 (Dic.bas_sat hE.wf e k);have hQ:=(hE.same.sat _).1 (Dic.ext_sat hE.wf fun _=>0);have hdiff:∀ l,atX v (toX (cV v E e k)) l-atX v (fun _=>0) l=atX v (E.bas e k) l-atX v (E.ext fun _=>0) l:=fun l=>zHI fun y hy=>by rw[hry y (List.mem_range.1 hy)];grind
 refine⟨zJT,fun l hl=>?_,?_⟩;{obtain⟨q,hq⟩:=xL hl;rw[hdiff,<-dS.1 hP q l hq,<-dS.1 hQ q l hq];rcases (hE.same.vars (v+q)).2 (.inl (List.mem_of_getElem? (pF (v:=v) (ob:=ob) (yK hq)))) with w|w;{have hi:=Dic.idx_bs w;have hil:=yK hi;have e1:=Dic.bas_bs hE.wf (k:=k) he hil;have e0:=Dic.bas_bs hE.wf (k:=0) he hil;rw[Dic.bas0 hE.wf] at e0;rw[getD_some hi] at e1 e0;rw[e1,e0];have:=hc _ hil (by rw[getD_some hi];omega);grind};{obtain⟨j,hj⟩:=xL w;have hjl:=yK hj;have e1:=Dic.bas_nb hE.wf (k:=k) he hjl;rw[getD_some hj] at e1;rw[e1,Dic.ext_nb hE.wf _ w];by_cases hje:j=e;{rw[if_pos hje];have:=hs (by rw[<-hje,getD_some hj];omega);grind};{rw[if_neg hje];grind}}}
 ·(rw[hdiff];have e1:atX v (E.bas e k) ob=E.val (E.bas e k):=(hE.val _ hP).symm;have e0:atX v (E.ext fun _=>0) ob=E.val (E.ext fun _=>0):=(hE.val _ hQ).symm;rw[e1,e0];have h1:E.val (E.bas e k)=E.ob.getD e 0*k+E.ob.getD E.nb.length 0:=by have:=dI (X:=E.bas e k) (nb:=E.nb) (l:=E.ob) (e:=e) hE.wf.nb he (fun j hj hne=>by rw[Dic.bas_nb hE.wf he hj,if_neg hne]);rw[Dic.bas_nb hE.wf he he,if_pos rfl] at this;exact this);have h0:E.val (E.ext fun _=>0)=E.ob.getD E.nb.length 0:=k9 fun y hy=>Dic.ext_nb hE.wf _ hy;rw[h1,h0];grind
end
theorem zJF {v:Nat}{rows:List (List Rat)}{ob:List Rat}(hr:∀ l,l∈rows->l.length=v+1)(ho:ob.length=v+1)(hp:v+1+2^(rows.length+1)+2^rows.length<=65537):∃ s,cS v rows.length (zY v rows ob)=some s/\SolOk v rows ob s/\s.pv<=65536:=by
 have hw0:=jX hr ho;have hnl:(zY v rows ob).nb.length=v:=by simp[zY]
 have hrel:=dY (v:=v) hw0 (zY v rows ob).nb 0 (zY v rows ob,0) rfl (Nat.zero_le _) .refl (fun e he=>absurd he (by omega));unfold cS;generalize rel v (zY v rows ob).nb 0 (zY v rows ob,0)=R1 at *
 obtain⟨D1,p1⟩:=R1;obtain⟨q1,q2,q3⟩:=hrel;dsimp only at q1 q2 q3 ⊢;rw[hnl] at q2 q3;have hw1:=q1.wf hw0;have hs1:=q1.same hw0;have hl1:=q1.len;have hpos:0<2^rows.length:=Nat.pow_pos (by decide);have hy1:∀ y,y∈D1.bs\/y∈D1.nb->y<v+rows.length:=fun y hy=>by rcases (hs1.vars y).1 hy with q|q;{obtain⟨k,hk,rfl⟩:=List.mem_map.1 q;have:=List.mem_range.1 hk;omega};{have:=List.mem_range.1 q;omega}
 have hf:=zHC (v:=v) (r:=rows.length) (p:=p1) hw1 (by rw[hl1.2,hnl];exact q2) hy1 (by omega);generalize vF v rows.length D1 p1=R2 at *
 obtain⟨E,q,ref,ok⟩:=R2;have hok:=hf.ok;have hfew:=hf.few;dsimp only at hok hfew;subst hok;cases ref with
 |some l =>
  obtain⟨a1,a2,k,a3,a4⟩:=hf.some l rfl;refine⟨_,rfl,⟨fun h=>absurd h (by simp),fun _=>⟨rfl,rfl,rfl,a1,a2,k,a3,fun x=>?_⟩,fun h=>absurd h (by simp),.inr (.inl rfl)⟩,by show q<=65536;omega⟩;have:=a4 _ ((hs1.sat _).2 (cF (ob:=ob) (x:=x)));rw[fB (g:=fun k=>atX v x (rows.getD k [])) (fun k hk=>by obtain⟨l',hl'⟩:=zT (show k<rows.length by omega);rw[c8 hl',getD_some hl'])] at this;exact this
 |none =>
  have hE1:=hf.none rfl;dsimp only at hE1;have hE:Feas v (zY v rows ob) E:=⟨hE1.wf,hE1.same.trans hs1,fun X hX=>(hE1.val X ((hs1.sat X).2 hX)).trans (q1.val hw0 hX),hE1.feas,hE1.rel0,hE1.nl.trans hl1.2⟩;dsimp only;cases hfr:fT v E.ob E.nb 0 with
  |some e =>
   obtain⟨f1,f2,f3⟩:=aI (nb:=E.nb) (ys:=E.nb) (j:=0) rfl hfr;have hpo:=zF0 hr ho hE;have hk:E.ob.getD e 0*(((-(yX (E.ob.getD e 0)):Int)):Rat)<0:=by
    generalize E.ob.getD e 0=c at *
    unfold yX;by_cases h1:c<0;{rw[if_pos h1];simp;exact h1};{by_cases h2:0<c;{rw[if_neg h1,if_pos h2];simp;grind};{exact absurd (Rat.le_antisymm (Rat.not_lt.1 h2) (Rat.not_lt.1 h1)) f3}}
   have hra:=zFZ hr ho hE f1 hk (fun h=>absurd f2 (by omega)) (fun i hi hiv=>by rw[hE.rel0 e f1 f1 f2 i hi hiv,Rat.zero_mul];exact Rat.le_refl);exact⟨_,rfl,⟨fun h=>absurd h (by simp),fun h=>absurd h (by simp),fun _=>⟨rfl,rfl,hpo.1,hra.1,hpo.2.2.1,hra.2.1,hra.2.2⟩,.inr (.inr rfl)⟩,by show q<=65536;omega⟩
  |none =>
   have hfz:∀ j,j<E.nb.length->E.nb.getD j 0<v->E.ob.getD j 0=0:=fun j hj hjv=>nH (nb:=E.nb) (ys:=E.nb) (j:=0) rfl hfr j (Nat.zero_le _) hj hjv;have hyE:∀ y,y∈E.bs\/y∈E.nb->y<v+rows.length:=fun y hy=>hy1 y ((hE1.same.vars y).1 hy);have hz:∀ F,Pvs E F->∀ X,F.Sat X->E.val X=dot X F.nb F.ob:=fun F hF X hX=>(hF.val hE.wf (((hF.same hE.wf).sat X).1 hX)).symm;obtain⟨hm,hmo,hmf,hmw⟩:=zAM (v:=v) (z:=E.val) (ln:=Dic.ob) (p0:=q) (M:=rows.length) hE.wf hE.feas hz hyE (by omega);generalize wR v Dic.ob (65537-q) E q=R3 at *
   (obtain⟨F,q',e,ok⟩:=R3;dsimp only at hmo hmf hmw ⊢;subst hmo;have hpF:=hm.pvs;dsimp only at hpF;have hwF:=hpF.wf hE.wf;have hsF:=hpF.same hE.wf;have hlF:=hpF.len;have hzero:∀ (G:Dic),G.rel0 v E.nb.length/\G.nb.length=E.nb.length->True:=fun _ _=>trivial;obtain⟨n,⟨Ds,ls,rs,es,hB,e0,en,el⟩,hn⟩:=hm.run;dsimp only at en el;have h0F:F.rel0 v E.nb.length:=by have:=BRun.rel0 (m:=E.nb.length) hB (by rw[e0];exact hE.rel0) n (Nat.le_refl _);rw[en] at this;exact this);have hF:Feas v (zY v rows ob) F:=⟨hwF,hsF.trans hE.same,fun X hX=>(hpF.val hE.wf ((hE.same.sat X).2 hX)).trans (hE.val X hX),hmf,by rw[hlF.2];exact h0F,hlF.2.trans hE.nl⟩;have hpo:=zF0 hr ho hF
   
   have hob:∀ i,i<=n->(∀ j,j<(Ds i).nb.length->(Ds i).nb.getD j 0<v->(Ds i).ob.getD j 0=0)/\(Ds i).rel0 v E.nb.length/\(Ds i).nb.length=E.nb.length:=by
    intro i;induction i with
    |zero=>intro _;rw[e0];exact⟨hfz,hE.rel0,rfl⟩| succ i ih =>
     (intro hi;obtain⟨i1,i2,i3⟩:=ih (by omega);have s:=hB.step i (by omega);have hwi:=hB.wf i (by omega);have hrv:v<=(Ds i).bs.getD (rs i) 0:=by have:=s.1.rfr;simpa[frV] using this);rw[s.2]
     refine⟨fun j hj hjv=>?_,Dic.rel0_piv hwi s.1.hr s.1.he hrv i2,(Dic.piv_nl _ _ _).trans i3⟩;rw[Dic.piv_nl] at hj;rw[Dic.piv_nb_get s.1.he] at hjv;by_cases hje:j=es i;{rw[if_pos hje] at hjv;omega};{rw[if_neg hje] at hjv;rw[Dic.piv_ob hwi s.1.hr s.1.he (by omega),if_neg hje,if_neg hje,i1 j hj hjv,i2 j (by omega) hj hjv _ s.1.hr hrv,Rat.neg_zero,Rat.div_def,Rat.zero_mul,Rat.mul_zero,Rat.add_zero]}
   have hobF:=(hob n (Nat.le_refl _)).1;rw[en] at hobF;have hres:=hm.ok rfl;dsimp only at hres ⊢;split;{rename_i he;rcases hres.2 with w|⟨w1,w2,w3⟩;{rw[w.1] at he;exact absurd he (by decide)};{rw[w2] at w3 ⊢;obtain⟨k1,k2,k3⟩:=c9 (by rw[<-w2];exact w1);have hra:=zFZ hr ho hF (k:=1) k1 (by rw[Rat.mul_one];exact k3) (fun _=>by decide) (fun i hi hiv=>by rw[Rat.mul_one];exact eA w3 hi hiv);exact⟨_,rfl,⟨fun h=>absurd h (by simp),fun h=>absurd h (by simp),fun _=>⟨rfl,rfl,hpo.1,hra.1,hpo.2.2.1,hra.2.1,hra.2.2⟩,.inr (.inr rfl)⟩,by show q'<=65536;omega⟩}}
   ·(rename_i he;have hent:ent v F.nb F.ob<0:=by rcases hres.2 with w|⟨w1,w2,w3⟩;{exact w.2};{exact absurd w1 he});refine⟨_,rfl,⟨fun _=>⟨hpo.1,hpo.2.2.1,hpo.2.2.2.1,cJ,zBZ fun j hj hjv=>eT hent hj hjv,fun x=>?_,rfl⟩,fun h=>absurd h (by simp),fun h=>absurd h (by simp),.inl rfl⟩,by show q'<=65536;omega⟩;have hX:=(hF.same.sat _).2 (cF (rows:=rows) (ob:=ob) (x:=x));have hv:=hF.val _ (cF (rows:=rows) (ob:=ob) (x:=x));rw[zD0] at hv;rw[<-hv];have hd:=eZ (v:=v) (r:=rows.length) (nb:=F.nb) (l:=F.ob) (X:=full v rows x) hwF.nb (fun j hj hno=>.inl (by have h3:=hyE _ ((hsF.vars _).1 (.inr (yN (d:=0) hj)));exact hobF j hj (by omega)))
    show dot (full v rows x) F.nb F.ob=_;rw[hd,fB (g:=fun k=>atX v x (rows.getD k [])) (fun k hk=>by rw[cJ] at hk;obtain⟨l',hl'⟩:=zT hk;rw[c8 hl',getD_some hl'])]
theorem zPM (x y:R):mkRat (sgn (x.neg != y.neg) (val x.num*y.d)) (x.d*val y.num)=x.q/y.q:=by rw[Rat.div_def,R.q,R.q,<-Rat.divInt_ofNat,<-Rat.divInt_ofNat,<-Rat.divInt_ofNat,Rat.inv_divInt,Rat.divInt_mul_divInt];unfold R.n sgn;cases x.neg <;> cases y.neg <;> simp[Rat.divInt_neg',Int.neg_mul,Int.mul_neg]
theorem jK {q:Rat}:yX q=0↔q=0:=by unfold yX;split <;> (try split) <;> constructor <;> grind
theorem zNZ (x:R)(hx:x.sz (2^36)):zH 130 [rv x] (rv (zL (-x.q))):=by
 refine sF Tryz.f130 ?_;have cc:=s161 ⟨!x.neg,x.num,x.den⟩ ⟨hx.n,hx.d⟩;rw[zL1] at cc;generalize zL (-x.q)=W at *
 obtain⟨a,b,c⟩:=x;generalize hna:(!a)=na at *
 cbv;refine wD rfl (by exact⟨⟨kQ hna.symm,lR,lR,trivial⟩,trivial⟩) cc rfl ?_;cbv
 (refine rC ?_;cbv)
 exact okA
theorem zLX (x y:R)(hx:x.sz (2^34))(hy:y.sz (2^34))(h0:y.q≠0):zH 129 [rv x,rv y] (.tup [rv (zL (x.q/y.q)),.int .i64 (fun _=>(0:Int))]):=by
 refine sF Tryz.f129 ?_;have h1:=hx.n;have h2:=hx.d;have h3:=hy.n;have h4:=hy.d;have h7:=uC x.den;have h8:=uC y.den;have hyn:val y.num≠0:=fun h=>h0 (by
  (have:y.n=0:=by unfold R.n;rw[h];simp[sgn]);rw[R.q,this];simp)
 have csg:=s86 y (by omega);have hsg:¬yX y.q=0:=fun h=>h0 (jK.1 h);have cux:=s195 x (by omega);have cuy:=s195 y (by omega);have cm:=s194 (xB x.den) y.num (by omega) (by omega);have hml:=k7 (xB x.den) y.num;rw[vL] at cm hml;have cn:=s194 x.num (xB y.den) (by omega) (by omega);have hnl:=k7 x.num (xB y.den);rw[vL] at cn hnl;have cq:=s193 (x.neg != y.neg) (zE (val x.num*y.d)) (zE (x.d*val y.num)) (by omega) (by omega) (by rw[zM];exact Nat.mul_ne_zero x.d_ne hyn);rw[zM,zM,zPM] at cq;have hb:(x.neg != y.neg)=!decide (x.neg=y.neg):=by cases x.neg <;> cases y.neg <;> rfl
 clear hml hnl hx hy h0;generalize zL (x.q/y.q)=W at *
 generalize yX y.q=sg at *
 generalize zE (x.d*val y.num)=M at *
 generalize zE (val x.num*y.d)=P at *
 generalize xB x.den=ux at *
 generalize xB y.den=uy at *
 obtain⟨a,b,c⟩:=x;obtain⟨a',b',c'⟩:=y;simp only at *
 generalize (a != a')=nb at *
 cbv;refine cA csg ?_;cbv;refine gA hsg ?_;cbv;refine zZ 16 (by cbv) ?_;cbv;refine dA cuy ?_;cbv;refine dA cn ?_;cbv;refine dA cux ?_;cbv;refine dA cm ?_;cbv;refine uX (by exact⟨kQ hb,lR,lR,trivial⟩) cq rfl ?_;cbv
 (refine rC ?_;cbv)
 exact okA
def cq (q:Rat):List PV:=[.bool (fun _=>(zL q).neg),nat (zL q).num,nat (zL q).den]
def ci (n:Nat):List PV:=[.int .i64 (fun _=>(n:Int))]
def tO (v r : Nat) (D : Dic) (p : Nat) : List (Nat × Obj') :=
  [(1000000, .box [.int .i64 (fun _ => (v : Int)), .int .i64 (fun _ => (r : Int)), .osl 1000001 1 (fun _ => 0) (fun _ => D.bs.length), .osl 1000002 1 (fun _ => 0) (fun _ => D.nb.length), .osl 1000003 1 (fun _ => 0) (fun _ => D.fs.length), .osl 1000004 3 (fun _ => 0) (fun _ => D.ob.length), .int .i64 (fun _ => (p : Int))]),
   (1000001, .arr 1 (fun _ => enc ci D.bs)), (1000002, .arr 1 (fun _ => enc ci D.nb)), (1000003, .mat 3 (fun _ => D.fs.map (enc cq)) []), (1000004, .arr 3 (fun _ => enc cq D.ob))]
theorem u7 {rs:List ResultVar}{r:PV}{ps ps':PS}{kept:List (Nat×Obj')}(hw:Wk ps ps')(h3:lv r=true)(h4:vZ id ps'.objs kept)(h5:ndO (zW id kept)=true)(h6:eE id kept)(h:match fG ps' rs with
  |some l=>les (pW l) (ren id r)| none=>False):RetOk rs r kept [] ps:=by
 cases h1:fG ps' rs with
 |none=>rw[h1] at h;exact h.elim| some l=>rw[h1] at h;exact⟨ps',l,id,hw,h1,fQ h,h3,by rw[List.append_nil];exact h4,by rw[List.append_nil];exact h5,h6⟩
theorem eG:Pg.funcs[51]?=some Tryz.f51:=by rw[wY];rfl
theorem jS (v r:Nat)(D:Dic)(p:Nat)(x:Nat):Sound 51 [.ptr 1000000 0,.int .i64 (fun _=>(x:Int))] (tO v r D p) [] (.bool (fun _=>decide ((x:Int)<(v:Int)))) (tO v r D p) []:=by refine xP eG rfl rfl rfl rfl rfl ?_;cbv;refine u7 (.refl _) rfl (by exact⟨⟨rfl,rfl⟩,⟨rfl,rfl⟩,⟨rfl,rfl⟩,⟨rfl,rfl⟩,⟨rfl,rfl⟩,trivial⟩) (by rfl) (by exact⟨⟨rfl,by omega⟩,⟨rfl,by omega⟩,⟨rfl,by omega⟩,⟨rfl,by omega⟩,⟨rfl,by omega⟩,trivial⟩) ?_;exact lR
abbrev cR (X:R):List PV:=[.bool (fun _=>X.neg),nat X.num,nat X.den]
theorem jF {l:List Rat}{i i':Nat}{x:Rat}{X:R}{K:List PV->Prop}(h:l[i]?=some x)(hi:i'=i)(hX:zL x=X)(hK:K (cR X)):ElOk 3 (fun _=>enc cq l) (fun _=>i') K :=
 ⟨⟨cR X,rfl,rfl,by show (enc cq l)[i']?=_;rw[hi];unfold enc;rw[List.getElem?_map,h,<-hX];rfl,hK⟩⟩
theorem bI {l:List Rat}{i:Nat}{x:Rat}{X:R}(hX:zL x=X):(enc cq l).set i [D.bool X.neg,D.sl (lm X.num),D.sl (lm X.den)]=enc cq (l.set i x):=by subst hX;rw[<-zHF];rfl
theorem zQB {a:Rat}{l f:List Rat}{i:Nat}{x:Rat}(hl:l.length=f.length)(hx:l[i]?=some x):((jG a l f).take i++l.drop i)[i]?=some x:=by
 have hi:=(List.getElem?_eq_some_iff.1 hx).1;have h1:((jG a l f).take i).length=i:=by rw[List.length_take,jC];omega
 rw[List.getElem?_append_right (by omega),h1,Nat.sub_self,List.getElem?_drop,Nat.add_zero];exact hx
theorem zHP {a:Rat}{l f:List Rat}{i:Nat}{x c y:Rat}(hl:l.length=f.length)(hx:l[i]?=some x)(hc:f[i]?=some c)(hy:y=x+a*c):((jG a l f).take i++l.drop i).set i y=(jG a l f).take (i+1)++l.drop (i+1):=by
 have hi:=(List.getElem?_eq_some_iff.1 hx).1;have h1:((jG a l f).take i).length=i:=by rw[List.length_take,jC];omega
 have hg:(jG a l f)[i]?=some y:=by
  (have h2:=tX a l f i hl;have h3:i<(jG a l f).length:=by rw[jC];exact hi);rw[List.getElem?_eq_getElem h3]
  rw[List.getD_eq_getElem?_getD,List.getElem?_eq_getElem h3,List.getD_eq_getElem?_getD,hx,List.getD_eq_getElem?_getD,hc] at h2;simp only[Option.getD_some] at h2;rw[h2,hy]
 apply List.ext_getElem?;intro j;rw[List.getElem?_set];have h4:((jG a l f).take (i+1)).length=i+1:=by rw[List.length_take,jC];omega
 by_cases hj:i=j;{subst hj;rw[if_pos rfl,if_pos (by rw[List.length_append,h1,List.length_drop];omega),List.getElem?_append_left (by omega),List.getElem?_take_of_lt (by omega)];exact hg.symm};{rw[if_neg hj];by_cases hlt:j<i;{rw[List.getElem?_append_left (by omega),List.getElem?_append_left (by omega),List.getElem?_take_of_lt hlt,List.getElem?_take_of_lt (by omega)]};{rw[List.getElem?_append_right (by omega),List.getElem?_append_right (by omega),h1,h4,List.getElem?_drop,List.getElem?_drop];congr 1;omega}}
theorem fC {α:Type}{l:List α}{i:Nat}{x:α}(h:l[i]?=some x):l.set i x=l:=by apply List.ext_getElem?;intro j;rw[List.getElem?_set];by_cases hj:i=j;{subst hj;rw[if_pos rfl,if_pos (List.getElem?_eq_some_iff.1 h).1,h]};{rw[if_neg hj]}
theorem zK0 (l f:List Rat)(e:Nat)(hl:l.length=f.length)(he:e<l.length)(hn:l.length<2^40)(h1:lfit (2^32) l)(h2:lfit (2^32) f):Sound 131 [.osl 1000001 3 (fun _=>0) (fun _=>l.length),.int .i64 (fun _=>(e:Int)),.osl 1000002 3 (fun _=>0) (fun _=>f.length)] [(1000001,.arr 3 (fun _=>enc cq l)),(1000002,.arr 3 (fun _=>enc cq f))] [] (.tup []) [(1000001,.arr 3 (fun _=>enc cq (sbs l e f))),(1000002,.arr 3 (fun _=>enc cq f))] []:=by
 refine sF Tryz.f131 ?_;obtain⟨a,ha⟩:=zT he;have hga:l.getD e 0=a:=getD_some ha;have fa:Fits (2^32) a:=h1 a (List.mem_of_getElem? ha);obtain⟨A,hA⟩:∃ A,zL a=A:=⟨_,rfl⟩;have szA:A.sz (2^32):=by rw[<-hA];exact yD fa
 have qA:A.q=a:=by rw[<-hA];exact yT a
 have csg:=s86 A (by have:=szA.n;omega);rw[qA] at csg;have hs0:sbs l e f=jG a (l.set e 0) f:=by unfold sbs;rw[hga]
 have hsz:yX a=0->sbs l e f=l:=fun h=>zJJ (by rw[hga];exact jK.1 h) hl;generalize hsg:yX a=sg at *
 obtain⟨L,hL⟩:∃ L,sbs l e f=L:=⟨_,rfl⟩;rw[hL] at hs0 hsz ⊢;obtain⟨Z,hZ⟩:∃ Z,zL 0=Z:=⟨_,rfl⟩;have hZ0:Z=⟨false,[],[]⟩:=by rw[<-hZ];unfold zL;simp[z6]
 cbv;refine⟨zS om om,?_⟩;refine jF ha om hA ?_;cbv;refine cA csg ?_;cbv;refine zF (fun h=>?_) (fun h=>?_);{rw[hsz (by omega)];refine u7 (.refl _) rfl (by exact⟨⟨rfl,rfl⟩,⟨rfl,rfl⟩,trivial⟩) (by rfl) (by exact⟨⟨rfl,by omega⟩,⟨rfl,by omega⟩,trivial⟩) ?_;exact trivial};cbv;refine⟨zS om om,?_⟩;refine jF ha om hA ?_;cbv;generalize hl0:l.set e 0=l0 at *
 have hset:(enc cq l).set e [D.bool false,D.sl [],D.sl []]=enc cq l0:=by rw[<-hl0];exact bI (X:=⟨false,[],[]⟩) (by rw[hZ,hZ0])
 have hl0l:l0.length=f.length:=by rw[<-hl0,List.length_set];exact hl
 have hf0:lfit (2^32) l0:=by rw[<-hl0];exact h1.set (y5 (by decide)) e
 refine z9 (σ:=Nat×List Rat) (fun s=>⟨[(0,.osl 1000001 3 (fun _=>0) (fun _=>l.length)),(6,.ptr 6 0),(20,.osl 1000002 3 (fun _=>0) (fun _=>f.length)),(21,.int .i64 (fun _=>(f.length:Int))),(22,.int .i64 (fun _=>(s.1:Int)))],
   [(1000001,.arr 3 (fun _=>enc cq s.2)),(1000002,.arr 3 (fun _=>enc cq f)),(6,.box (cR A))]⟩)
  (fun s=>s.1<=f.length/\s.2=(jG a l0 f).take s.1++l0.drop s.1) (fun s=>f.length-s.1)
  (0,l0) ⟨by omega,by simp⟩ (.le okZ (by cbv;exact⟨zB (by show (enc cq l).set (0+e) _=enc cq l0;rw[Nat.zero_add];exact hset),zB rfl,okA,trivial⟩) rfl) ?_
 intro s hs;obtain⟨i,m⟩:=s;obtain⟨g1,g2⟩:=hs;dsimp only at g1 g2;cbv;refine zF (fun h=>?_) (fun h=>?_)
 ·(have hi:i<f.length:=om;obtain⟨c,hc⟩:=zT hi;obtain⟨x,hx⟩:=zT (show i<l0.length by rw[hl0l];exact hi);have hm:m[i]?=some x:=by rw[g2];exact zQB hl0l hx);have hml:m.length=f.length:=by rw[g2,List.length_append,List.length_take,jC,List.length_drop];omega
  (obtain⟨C,hC⟩:∃ C,zL c=C:=⟨_,rfl⟩;obtain⟨X,hX⟩:∃ X,zL x=X:=⟨_,rfl⟩;have fc:Fits (2^32) c:=h2 c (List.mem_of_getElem? hc);have fx:Fits (2^32) x:=hf0 x (List.mem_of_getElem? hx);have szC:C.sz (2^32):=by rw[<-hC];exact yD fc);have szX:X.sz (2^32):=by rw[<-hX];exact yD fx
  (have qC:C.q=c:=by rw[<-hC];exact yT c);have qX:X.q=x:=by rw[<-hX];exact yT x
  (have csc:=s86 C (by have:=szC.n;omega);rw[qC] at csc;obtain⟨W,hW⟩:∃ W,zL (a*c)=W:=⟨_,rfl⟩;obtain⟨Y,hY⟩:∃ Y,zL (x+a*c)=Y:=⟨_,rfl⟩;have fac:Fits (2^33) (a*c):=(wU fa fc).mono (by decide);have szW:W.sz (2^33):=by rw[<-hW];exact yD fac);have qW:W.q=a*c:=by rw[<-hW];exact yT _
  (have cm:=s199 A C (szA.mono (by decide)) (szC.mono (by decide));rw[qA,qC,hW] at cm;have ca:=s138 X W (szX.mono (by decide)) (szW.mono (by decide));rw[qX,qW,hY] at ca;have hst:=zHP (a:=a) (y:=x+a*c) hl0l hx hc rfl;have hst0:yX c=0->m=(jG a l0 f).take (i+1)++l0.drop (i+1):=fun h=>by have h0:=jK.1 h;have:=zHP (a:=a) (y:=x) hl0l hx hc (by rw[h0,Rat.mul_zero,Rat.add_zero]);rw[<-this,<-g2,fC hm]);rw[<-g2] at hst;generalize yX c=sc at *
  cbv;refine⟨zS om om,?_⟩;refine jF hc om hC ?_;cbv;refine cA csc ?_;cbv;refine zF (fun h0=>?_) (fun h0=>?_);{cbv;refine⟨zD om om,?_⟩;cbv;refine⟨(i+1,m),⟨by show i+1<=f.length;omega,hst0 (by omega)⟩,by show f.length-(i+1)<f.length-i;omega,wkZ⟩};{cbv;refine zZ 10 (by cbv) ?_;cbv;refine⟨zS om om,?_⟩;refine jF hm om hX ?_;cbv;refine dA cm ?_;cbv;refine dA ca ?_;cbv;refine⟨zS om om,?_⟩;refine jF hm om hX ?_;cbv;refine⟨zD om om,?_⟩;cbv;refine⟨(i+1,m.set i (x+a*c)),⟨by show i+1<=f.length;omega,hst⟩,by show f.length-(i+1)<f.length-i;omega,.le okZ (by cbv;exact⟨zB (by show (enc cq m).set (0+i) _=enc cq (m.set i (x+a*c));rw[Nat.zero_add];exact bI hY),zB rfl,okA,trivial⟩) rfl⟩}
 ·(have hi:i=f.length:=by (try dsimp only [zJ] at *);omega);have hmL:m=L:=by rw[g2,hs0,hi,<-hl0l,List.drop_length,List.append_nil,<-jC a l0 f,List.take_length]
  rw[<-hmL];cbv;refine u7 (.refl _) rfl (by exact⟨⟨rfl,rfl⟩,⟨rfl,rfl⟩,trivial⟩) (by rfl) (by exact⟨⟨rfl,by omega⟩,⟨rfl,by omega⟩,trivial⟩) ?_;exact trivial
theorem qR (fs:List (List Rat))(i:Nat):(fs.map (enc cq)).getD i []=enc cq (fs.getD i []):=by simp only[List.getD_eq_getElem?_getD,List.getElem?_map];cases fs[i]? <;> rfl
theorem map_set (fs:List (List Rat))(i:Nat)(l:List Rat):(fs.map (enc cq)).set i (enc cq l)=(fs.set i l).map (enc cq):=by rw[List.map_set]
theorem pK (fs:List (List Rat))(i:Nat):(fs.map (enc cq)).set i (enc cq (fs.getD i []))=fs.map (enc cq):=by rw[map_set];congr 1;by_cases h:i<fs.length;{obtain⟨l,hl⟩:=zT h;rw[getD_some hl,fC hl]};{rw[List.set_eq_of_length_le (by omega)]}
theorem eV {els:List (List D)}{l:List Rat}{i i':Nat}{x:Rat}{X:R}{K:List PV->Prop}(he:els=enc cq l)(h:l[i]?=some x)(hi:i'=i)(hX:zL x=X)(hK:K (cR X)):ElOk 3 (fun _=>els) (fun _=>i') K:=by subst he;exact jF h hi hX hK
theorem zAX:Pg.funcs[87]?=some Tryz.f87:=by rw[wY];rfl
theorem iA (v r:Nat)(D:Dic)(p:Nat)(i:Nat)(hw:D.wf)(hi:i<D.fs.length)(hn:D.nb.length<2^40):Sound 87 [.ptr 1000000 0,.int .i64 (fun _=>(i:Int))] (tO v r D p) [] (rv (zL (D.cst i))) (tO v r D p) []:=by
 refine xP zAX rfl rfl rfl rfl rfl ?_;obtain⟨l,hl⟩:=zT hi;have hlen:=hw.row i l hl;have hgl:D.fs.getD i []=l:=getD_some hl;obtain⟨x,hx⟩:=zT (show D.nb.length<l.length by omega);have hc:D.cst i=x:=by unfold Dic.cst;rw[hgl,getD_some hx]
 obtain⟨X,hX⟩:∃ X,zL x=X:=⟨_,rfl⟩;rw[hc,hX];have hrow:=qR D.fs i;have hsame:=pK D.fs i;rw[hgl] at hrow hsame;cbv;refine tN 14 (.focus 1000003 30 (fun _=>i) rfl rfl (dP (by show i<(D.fs.map (enc cq)).length;rw[List.length_map];exact hi))) (by cbv) ?_;cbv;refine⟨zS om om,?_⟩;refine cD om ?_;cbv;refine⟨zS om (by show (D.nb.length:Int)<(((D.fs.map (enc cq)).getD i []).length:Int);rw[hrow,zN];omega),?_⟩;refine eV hrow hx om hX ?_;cbv;refine u7 (ps':=⟨[(4,.ptr 4 0)],tO v r D p++[(4,.box (cR X))]⟩) (.trans (.unfocus 1000003 30 [] [] rfl rfl rfl ⟨rfl,rfl⟩) (.le okZ (by
  cbv
  repeat' first|exact trivial|exact lR|exact zB rfl|exact⟨by show (D.fs.map (enc cq)).set i ((D.fs.map (enc cq)).getD i [])=D.fs.map (enc cq);rw[hrow];exact hsame⟩|apply And.intro) rfl)) rfl
  (by exact⟨⟨rfl,rfl⟩,⟨rfl,rfl⟩,⟨rfl,rfl⟩,⟨rfl,rfl⟩,⟨rfl,rfl⟩,trivial⟩) (by rfl) (by exact⟨⟨rfl,by omega⟩,⟨rfl,by omega⟩,⟨rfl,by omega⟩,⟨rfl,by omega⟩,⟨rfl,by omega⟩,trivial⟩) ?_
 cbv;exact okA
end Go.Proofs.YtfainocfaddbdaaGreat
