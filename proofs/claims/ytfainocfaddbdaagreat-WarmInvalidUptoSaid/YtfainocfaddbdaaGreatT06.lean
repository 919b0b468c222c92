/- A part of the proof: PmG, PmH, PmI. -/
import Derived.Test.YtfainocfaddbdaaGreatT05
set_option linter.all false
namespace Go.Proofs.YtfainocfaddbdaaGreat
open Go
section
variable {w:World} {S:Nat->Nat->Prop} {β:Bm} {K:PV->Prop}
theorem uY {v:Value}{x:PV}(h:Rep w S β v x)(hp:qV x=true):v.cells.size=(yF x).length/\∀ j,j<(yF x).length->Rep w S β (v.cells.getD j undef) ((yF x).getD j .any):=by
 have one:(∀ cs,v≠.agg cs)->yF x=[x]->v.cells.size=(yF x).length/\∀ j,j<(yF x).length->Rep w S β (v.cells.getD j undef) ((yF x).getD j .any):=by
  (intro hv hx;have hc:v.cells=#[v]:=by unfold Value.cells;split <;> first|(exact absurd rfl (hv _))|rfl);rw[hc,hx]
  (refine⟨rfl,fun j hj=>?_⟩;have:j=0:=by simp at hj;omega);subst this
  simpa using h
 cases x with
 |agg cs =>
  obtain⟨vs,rfl,h1,h2⟩:=vL h;exact⟨h1,h2⟩
 |int k n=>exact one (by rw[xV h];intro cs e;cases e) rfl
 |tt=>exact one (by rw[tM h];intro cs e;cases e) rfl
 |ff=>exact one (by rw[tN h];intro cs e;cases e) rfl
 |bool b=>exact one (by rw[gZ h];intro cs e;cases e) rfl
 |nbool b=>exact one (by rw[gF h];intro cs e;cases e) rfl
 |str s=>exact one (by rw[nH h];intro cs e;cases e) rfl
 |nil=>have hv:=qP h;subst hv;exact one (by intro cs e;cases e) rfl
 |sl els=>rcases qR (gW h) with⟨_,a,cap,rfl⟩|⟨b,o,cap,s,vals,_,_,_,_,_,_,_,rfl⟩ <;> exact one (by intro cs e;cases e) rfl
 |tup vs=>simp[qV,cO] at hp| ptr n o=>obtain⟨b,_,rfl⟩:=uF h;exact one (by intro cs e;cases e) rfl
 |aptr n s i o=>obtain⟨b,_,rfl⟩:=qG h;exact one (by intro cs e;cases e) rfl
 |dptr cs o=>obtain⟨b,o',vals,_,rfl,_⟩:=gY h;exact one (by intro cs e;cases e) rfl
 |osl n s o l=>rcases w8 h with⟨_,_,_,a,rfl⟩|⟨b,cap,vs,T,_,_,_,_,rfl⟩ <;> exact one (by intro cs e;cases e) rfl
 |fn f cs=>obtain⟨vs,rfl,_⟩:=kT h;exact one (by intro cs e;cases e) rfl
 |nilf=>cases h with|c hf h=>cases hf|nilf=>exact one (by intro cs e;cases e) rfl
 |nilp=>cases h with|c hf h=>cases hf|nilp=>exact one (by intro cs e;cases e) rfl
 |emp=>obtain⟨a,hv⟩:=rX h;subst hv;exact one (by intro cs e;cases e) rfl
 |any=>simp[qV,cO] at hp
theorem fF {v:Value}{x:PV}(h:Rep w S β v x)(hp:cO x=true):v.oneCell'=true:=by
 cases x with
 |agg cs=>simp[cO] at hp| int k n=>rw[xV h];rfl
 |tt=>rw[tM h];rfl
 |ff=>rw[tN h];rfl
 |bool b=>rw[gZ h];rfl
 |nbool b=>rw[gF h];rfl
 |str s=>rw[nH h];rfl
 |nil=>rw[qP h];rfl
 |sl els=>rcases qR (gW h) with⟨_,a,cap,rfl⟩|⟨b,o,cap,s,vals,_,_,_,_,_,_,_,rfl⟩ <;> rfl
 |tup vs=>simp[cO] at hp| ptr n o=>obtain⟨b,_,rfl⟩:=uF h;rfl
 |aptr n s i o=>obtain⟨b,_,rfl⟩:=qG h;rfl
 |dptr cs o=>obtain⟨b,o',vals,_,rfl,_⟩:=gY h;rfl
 |osl n s o l=>rcases w8 h with⟨_,_,_,a,rfl⟩|⟨b,cap,vs,T,_,_,_,_,rfl⟩ <;> rfl
 |fn f cs=>obtain⟨vs,rfl,_⟩:=kT h;rfl
 |nilf=>cases h with|c hf h=>cases hf|nilf=>rfl
 |nilp=>cases h with|c hf h=>cases hf|nilp=>rfl
 |emp=>obtain⟨a,hv⟩:=rX h;subst hv;rfl
 |any=>simp[cO] at hp
theorem eE {x:PV}(h:p6 x=true):cO x=true:=by cases x <;> simp_all [p6,cO,kQ]
theorem aR {x:PV}(h:p6 x=true):sJ x=true:=by cases x <;> simp_all [p6,sJ,kQ]
theorem vY:∀ (cs:List PV) (n:Nat) (vs:List PV),n+vs.length<=cs.length->(wZ cs n vs).length=cs.length
 |c::cs,0,v::vs,h=>by simp only[wZ,List.length_cons] at *;rw[vY cs 0 vs (by omega)]| cs,0,[],_=>by cases cs <;> simp[wZ]
 |[],n,v::vs,h=>by simp at h| [],n+1,[],h=>by simp at h| c::cs,n+1,vs,h=>by simp only[wZ,List.length_cons] at *;rw[vY cs n vs (by omega)]
theorem gS:∀ (cs:List PV) (n:Nat) (vs:List PV),n+vs.length<=cs.length->∀ j,(wZ cs n vs).getD j .any=if n<=j/\j<n+vs.length then vs.getD (j-n) .any else cs.getD j .any
 |c::cs,0,v::vs,h,0=>by simp[wZ]| c::cs,0,v::vs,h,j+1=>by have:=gS cs 0 vs (by simp only[List.length_cons] at h;omega) j;simp[wZ] at this ⊢;exact this| cs,0,[],_,j=>by cases cs <;> simp[wZ]
 |[],n,v::vs,h,j=>by simp at h| [],n+1,[],h,j=>by simp at h| c::cs,n+1,vs,h,0=>by simp[wZ]| c::cs,n+1,vs,h,j+1=>by have:=gS cs n vs (by simp only[List.length_cons] at h;omega) j;simp only[wZ,List.getD_cons_succ,this];by_cases h1:n<=j/\j<n+vs.length;{rw[if_pos h1,if_pos (by omega)];congr 1;omega};{rw[if_neg h1,if_neg (by omega)]}
def RepL (w:World) (S:Nat->Nat->Prop) (β:Bm) (vs:Array Value) (cs:List PV):Prop :=
 vs.size=cs.length/\∀ j,j<cs.length->Rep w S β (vs.getD j undef) (cs.getD j .any)
theorem zHE (vs:List Value):∀ (k off:Nat) (cells:Array Value),off+k+vs.length<=cells.size ->((vs.zipIdx k).foldl (fun (cs:Array Value) (p:Value×Nat)=>cs.setIfInBounds (off+p.2) p.1) cells).size=cells.size /\ ∀ j,((vs.zipIdx k).foldl (fun (cs:Array Value) (p:Value×Nat)=>cs.setIfInBounds (off+p.2) p.1) cells).getD j undef=if off+k<=j/\j<off+k+vs.length then vs.getD (j-(off+k)) undef else cells.getD j undef:=by
 induction vs with
 |nil=>intro k off cells h;refine⟨rfl,fun j=>?_⟩;simp;omega| cons v vs ih =>
  intro k off cells h;simp only[List.zipIdx_cons,List.foldl_cons,List.length_cons] at *
  obtain⟨h1,h2⟩:=ih (k+1) off (cells.setIfInBounds (off+k) v) (by simp;omega);refine⟨by rw[h1];simp,fun j=>?_⟩;rw[h2 j];by_cases hj:j=off+k
  ·(subst hj;rw[if_neg (by omega),if_pos (by omega)];have:off+k<cells.size:=by omega);simp[this]
  ·by_cases hr:off+(k+1)<=j/\j<off+(k+1)+vs.length
   ·(rw[if_pos hr,if_pos (by omega)];have:j-(off+k)=(j-(off+(k+1)))+1:=by omega);rw[this,List.getD_cons_succ]
   {rw[if_neg hr,if_neg (by omega)];simp[Array.getElem?_setIfInBounds_ne (Ne.symm hj)]}
theorem zAX {cells:Array Value}{z:List PV}(hz:RepL w S β cells z){v:Value}{x:PV}(hv:Rep w S β v x)(hp:qV x=true){off:Nat}(hle:off+(yF x).length<=z.length):RepL w S β (v.cells.zipIdx.foldl (fun (cs:Array Value) (p:Value×Nat)=>cs.setIfInBounds (off+p.2) p.1) cells) (wZ z off (yF x)):=by
 obtain⟨h1,h2⟩:=uY hv hp;have hl:v.cells.toList.length=(yF x).length:=by simpa using h1
 obtain⟨h3,h4⟩:=zHE v.cells.toList 0 off cells (by rw[hl,hz.1];omega);have he:v.cells.zipIdx.foldl (fun (cs:Array Value) (p:Value×Nat)=>cs.setIfInBounds (off+p.2) p.1) cells=(v.cells.toList.zipIdx 0).foldl (fun (cs:Array Value) (p:Value×Nat)=>cs.setIfInBounds (off+p.2) p.1) cells:=by rw[<-Array.foldl_toList,Array.toList_zipIdx]
 rw[he];refine⟨by rw[h3,hz.1,vY _ _ _ hle],fun j hj=>?_⟩;rw[vY _ _ _ hle] at hj;rw[h4 j,gS _ _ _ hle j,hl];by_cases hr:off+0<=j/\j<off+0+(yF x).length;{rw[if_pos hr,if_pos (by omega)];have:=h2 (j-off) (by omega);simpa using this};{rw[if_neg hr,if_neg (by omega)];exact hz.2 j hj}
theorem uK (zs:Array Value):RepL w S β zs (zs.toList.map x8):=by
 refine⟨by simp,fun j hj=>?_⟩;have hj':j<zs.size:=by simpa using hj
 have:(zs.toList.map x8).getD j .any=x8 (zs.getD j undef):=by simp[hj']
 rw[this];exact oT _
inductive PartsRep (w:World) (S:Nat->Nat->Prop) (β:Bm):List (Nat×Value)->List (Nat×PV)->Prop
 |nil:PartsRep w S β [] []
 |cons {i v x r q} (hv:Rep w S β v x) (h:PartsRep w S β r q):PartsRep w S β ((i,v)::r) ((i,x)::q)
theorem cH {ρ:Operand->Value}{e:Operand->PV}(he:∀ x,Rep w S β (ρ x) (e x)):∀ (l:List (Nat×Operand)),PartsRep w S β (l.map fun (p:Nat×Operand)=>(p.1,ρ p.2)) (wY e l)
 |[]=>.nil| (i,o)::r=>.cons (he o) (cH he r)
theorem zBS {fs:List (Nat×Nat×Bool)}{place:Nat->Option (Nat×Nat)}(hpl:∀ i off sz ag,fs[i]?=some (off,sz,ag)->place i=some (off,sz)){vps:List (Nat×Value)}{ps:List (Nat×PV)}(h:PartsRep w S β vps ps):∀ {cells:Array Value} {z cs:List PV},RepL w S β cells z->zDT fs ps z=some cs->∃ cells',Instr.fill place cells vps=some cells'/\RepL w S β cells' cs:=by
 induction h with
 |nil=>intro cells z cs hz hf;simp only[zDT,Option.some.injEq] at hf;subst hf;exact⟨cells,rfl,hz⟩| @cons i v x r q hv h ih =>
  intro cells z cs hz hf;unfold zDT at hf;split at hf
  ·rename_i off sz ag hi;cases hc:(nqb (yF x).length sz&&nle (off+sz) z.length&&qV x) with
   |false=>simp[hc] at hf| true =>
    (simp only[hc,cond_true] at hf;simp only[Bool.and_eq_true] at hc;obtain⟨⟨hl,hle⟩,hp⟩:=hc;have hl:=yC hl;have hle:=bO hle;obtain⟨c1,c2⟩:=uY hv hp;obtain⟨cells',h1,h2⟩:=ih (zAX hz hv hp (by omega)) hf;refine⟨cells',?_,h2⟩;unfold Instr.fill;rw[hpl _ _ _ _ hi];have hn:¬(v.cells.size≠sz\/off+v.cells.size > cells.size):=by rw[c1,hz.1];omega);simp only[ne_eq,Bool.or_eq_true,decide_eq_true_eq,hn,if_false]
    simpa using h1
  {cases hf}
theorem zBU {n:Nat}{vps:List (Nat×Value)}{ps:List (Nat×PV)}(h:PartsRep w S β vps ps):∀ {cells:Array Value} {z cs:List PV},RepL w S β cells z->zDU n ps z=some cs->∃ cells',Instr.fill (fun i=>some (i*n,n)) cells vps=some cells'/\RepL w S β cells' cs:=by
 induction h with
 |nil=>intro cells z cs hz hf;simp only[zDU,Option.some.injEq] at hf;subst hf;exact⟨cells,rfl,hz⟩| @cons i v x r q hv h ih =>
  intro cells z cs hz hf;unfold zDU at hf;cases hc:(nqb (yF x).length n&&nle (i*n+n) z.length&&qV x) with
  |false=>simp[hc] at hf| true =>
   (simp only[hc,cond_true] at hf;simp only[Bool.and_eq_true] at hc;obtain⟨⟨hl,hle⟩,hp⟩:=hc;have hl:=yC hl;have hle:=bO hle;obtain⟨c1,c2⟩:=uY hv hp;obtain⟨cells',h1,h2⟩:=ih (zAX hz hv hp (by omega)) hf;refine⟨cells',?_,h2⟩;unfold Instr.fill;have hn:¬(v.cells.size≠n\/i*n+v.cells.size > cells.size):=by rw[c1,hz.1];omega);simp only[ne_eq,Bool.or_eq_true,decide_eq_true_eq,hn,if_false]
   simpa using h1
theorem zBQ (P:Program)(fields:List Field)(hf:∀ f,f∈fields->∃ i,P.info? f.type=some i)(w:World):(fields.mapM fun f=>do pure (f.offset,<-sizeOf f.type):Sem (List (Nat×Nat))).run P w=.ok (fields.map fun f=>(f.offset,P.cellsOf f.type)) w:=by
 induction fields with
 |nil=>rfl| cons f r ih =>
  (obtain⟨i,hi⟩:=hf f (by simp);have:=ih fun g hg=>hf g (by simp[hg]);have e:((do pure (f.offset,<-sizeOf f.type):Sem (Nat×Nat)).run P w)=.ok (f.offset,P.cellsOf f.type) w:=by simp[sizeOf,typeInfo,hi,Program.cellsOf]);rw[List.mapM_cons,Sem.run_bind,e,Result.andThen_ok,Sem.run_bind,this]
  simp
theorem zAN {t n:Nat}{fs:List (Nat×Nat×Bool)}{z:List PV}(ht:ty t=.st n fs z){ρ:Operand->Value}{e:Operand->PV}(he:∀ x,Rep w S β (ρ x) (e x)){parts:Array (Nat×Operand)}{cs:List PV} (hf:zDT fs (wY e parts.toList) z=some cs):∃ vs,(Instr.build t (parts.map fun (i,x)=>(i,ρ x))).run Pg w=.ok (.agg vs) w/\RepL w S β vs cs:=by
 obtain⟨i,fields,zs,h1,h2,h3,h4,h5,h6,h7,h8⟩:=n6 ht;subst h7;have hp:=cH (w:=w) (S:=S) (β:=β) he parts.toList;obtain⟨cells',g1,g2⟩:=zBS (place:=fun k=>(fields.map fun f=>(f.offset,Pg.cellsOf f.type))[k]?) (by intro k off sz ag hk;obtain⟨fields',f,u1,u2,u3,u4,_⟩:=iV ht hk;rw[h2] at u1;cases u1;simp[u2,u3,u4]) hp (uK zs) hf;refine⟨cells',?_,g2⟩;have hm:(fields.mapM fun f=>do pure (f.offset,<-sizeOf f.type):Sem (Array (Nat×Nat))).run Pg w=.ok (fields.map fun f=>(f.offset,Pg.cellsOf f.type)) w:=by have:=zBQ Pg fields.toList (fun f hf=>by obtain⟨i,hi,_⟩:=vE (h8 f hf);exact⟨i,hi⟩) w;rw[Array.mapM_eq_mapM_toList,Sem.run_map,this];exact congrArg (fun l=>Result.ok l w) (Array.ext' (by simp))
 have h9:((parts.map fun (i,x)=>(i,ρ x)).toList)=parts.toList.map fun (p:Nat×Operand)=>(p.1,ρ p.2):=by simp
 simp only[Instr.build,Sem.run_bind,bC h1 h3,Result.andThen_ok,run_underlying h2,hm,Value.cells,h9,g1,Sem.run_pure]
theorem eV {t len n:Nat}{ag:Bool}{z:List PV}(ht:ty t=.arr len n ag z){ρ:Operand->Value}{e:Operand->PV}(he:∀ x,Rep w S β (ρ x) (e x)){parts:Array (Nat×Operand)}{cs:List PV} (hf:zDU n (wY e parts.toList) z=some cs):∃ vs,(Instr.build t (parts.map fun (i,x)=>(i,ρ x))).run Pg w=.ok (.agg vs) w/\RepL w S β vs cs:=by
 obtain⟨i,el,zs,h1,h2,h3,h4,h5,h6,h7,h8,h8',h8'',h9⟩:=sH ht;subst h9;have hp:=cH (w:=w) (S:=S) (β:=β) he parts.toList;obtain⟨cells',g1,g2⟩:=zBU hp (uK zs) hf;refine⟨cells',?_,g2⟩;obtain⟨j,hj1,hj2⟩:=vE (t:=el) (by omega);have h9:((parts.map fun (i,x)=>(i,ρ x)).toList)=parts.toList.map fun (p:Nat×Operand)=>(p.1,ρ p.2):=by simp
 have hs:j.size=n:=hj2.trans h6;simp only[Instr.build,Sem.run_bind,bC h1 h3,Result.andThen_ok,run_underlying h2,Value.cells,h9,wR hj1,hs,g1,Sem.run_pure]
def uA:List (List PV)->List PV
 |[]=>[]| e::r=>e++uA r
theorem uX (n:Nat):∀ (z:List (List PV)),(∀ e,e∈z->e.length=n)->(uA z).length=z.length*n
 |[],_=>by simp[uA]| e::r,h=>by have:=uX n r fun e he=>h e (by simp[he]);simp[uA,this,h e (by simp),Nat.add_mul,Nat.add_comm]
theorem fX:∀ (a b vs:List PV),vs.length=a.length->wZ (a++b) 0 vs=vs++b
 |[],b,[],_=>by cases b <;> simp[wZ]
 |c::a,b,v::vs,h=>by simp only[List.cons_append,wZ];rw[fX a b vs (by simpa using h)]| [],_,_::_,h=>by simp at h| _::_,_,[],h=>by simp at h
theorem gT:∀ (a b vs:List PV) (k:Nat),wZ (a++b) (a.length+k) vs=a++wZ b k vs
 |[],b,vs,k=>by simp| c::a,b,vs,k=>by
  (have:(c::a).length+k=(a.length+k)+1:=by simp;omega);rw[this]
  simp only[List.cons_append,wZ];rw[gT a b vs k]
theorem zAH (n:Nat):∀ (z:List (List PV)) (i:Nat) (e:List PV),(∀ x,x∈z->x.length=n)->e.length=n->i<z.length->uA (z.set i e)=wZ (uA z) (i*n) e
 |[],i,e,_,_,hi=>by simp at hi| x::z,0,e,h,he,_=>by simp only[List.set_cons_zero,uA,Nat.zero_mul];rw[fX x (uA z) e (by rw[he,h x (by simp)])]| x::z,i+1,e,h,he,hi=>by
  (simp only[List.set_cons_succ,uA];rw[zAH n z i e (fun y hy=>h y (by simp[hy])) he (by simpa using hi)];have:(i+1)*n=x.length+i*n:=by rw[h x (by simp),Nat.add_mul];omega);rw[this,gT]
theorem zBT {n:Nat}{vps:List (Nat×Value)}{ps:List (Nat×PV)}(h:PartsRep w S β vps ps):∀ {cells:Array Value} {z els:List (List PV)},(∀ e,e∈z->e.length=n)->RepL w S β cells (uA z)->d5 n ps z=some els ->∃ cells',Instr.fill (fun i=>some (i*n,n)) cells vps=some cells'/\RepL w S β cells' (uA els)/\(∀ e,e∈els->e.length=n)/\els.length=z.length:=by
 induction h with
 |nil=>intro cells z els hn hz hf;simp only[d5,Option.some.injEq] at hf;subst hf;exact⟨cells,rfl,hz,hn,rfl⟩| @cons i v x r q hv h ih =>
  intro cells z els hn hz hf;unfold d5 at hf;cases hc:(nqb (yF x).length n&&nlt i z.length&&qV x) with
  |false=>simp[hc] at hf| true =>
   (simp only[hc,cond_true] at hf;simp only[Bool.and_eq_true] at hc;obtain⟨⟨hl,hlt⟩,hp⟩:=hc;have hl:=yC hl;have hlt:i<z.length:=by simp[nlt] at hlt;omega);have hle:i*n+n<=(uA z).length:=by
    rw[uX n z hn]
    calc i*n+n=(i+1)*n:=by rw[Nat.add_mul];omega
     _<=z.length*n:=Nat.mul_le_mul_right _ hlt
   obtain⟨c1,c2⟩:=uY hv hp;have hs:=zAX hz hv hp (off:=i*n) (by omega);rw[<-zAH n z i (yF x) hn hl hlt] at hs;obtain⟨cells',h1,h2,h3,h4⟩:=ih (z:=z.set i (yF x)) (fun e he=>by
    rcases List.mem_or_eq_of_mem_set he with he|rfl;{exact hn e he}
    ·exact hl) hs hf
   (refine⟨cells',?_,h2,h3,by simpa using h4⟩;unfold Instr.fill;have hn':¬(v.cells.size≠n\/i*n+v.cells.size > cells.size):=by rw[c1,hz.1];omega);simp only[ne_eq,Bool.or_eq_true,decide_eq_true_eq,hn',if_false]
   simpa using h1
theorem bH (z:List PV):∀ n,(cF z n).length=n
 |0=>rfl| n+1=>by simp[cF,bH z n]
theorem lO (z:List PV):∀ n e,e∈cF z n->e=z
 |0,e,h=>by simp[cF] at h| n+1,e,h=>by simp only[cF,List.mem_cons] at h;rcases h with h|h;{exact h};{exact lO z n e h}
theorem c5 (z:List PV)(m:Nat)(hm:z.length=m)(hp:0<m):∀ n j,j<n*m->(uA (cF z n)).getD j .any=z.getD (j%m) .any
 |0,j,h=>by simp at h| n+1,j,h=>by simp only[cF,uA];by_cases hj:j<m;{rw[List.getD_eq_getElem?_getD,List.getElem?_append_left (by omega),<-List.getD_eq_getElem?_getD,Nat.mod_eq_of_lt hj]};{rw[List.getD_eq_getElem?_getD,List.getElem?_append_right (by omega),<-List.getD_eq_getElem?_getD,hm];rw[c5 z m hm hp n (j-m) (by rw[Nat.add_mul] at h;omega)];congr 1;rw[Nat.mod_eq_sub_mod (by omega:j ≥ m)]}
end
def vD:Nat->Prop:=fun _=>False
section
variable {w0:World} {S0:Nat->Nat->Prop} {K0:Nat->Prop} {N:Cx} {τ:Nat->PV} {objs:List (Nat×Obj')} {a:Act} {w w':World} {S S':Nat->Nat->Prop} {β:Bm}
theorem Leads.evo (l:Leads w S vD w' S')(hb:∀ b i,S b i->b<w.heap.size):Evo S w w' where
 same b i hS:=jQ (l.same b (hb b i hS) id) i
 shape b vs T h:=l.shape b vs T h
theorem Leads.subs {K:Nat->Prop}(l:Leads w S K w' S')(hb:∀ b i,S b i->b<w.heap.size):∀ b i,S b i->S' b i:=fun b i hS=>l.sub b i (hb b i hS) hS
theorem Leads.trans (h:Leads w0 S0 K0 w S)(l:Leads w S vD w' S'):Leads w0 S0 K0 w' S' where
 size:=Nat.le_trans h.size l.size
 os:=l.os.trans h.os
 tape:=l.tape.trans h.tape
 output:=l.output.trans h.output
 same b hb hk:=(l.same b (Nat.lt_of_lt_of_le hb h.size) id).trans (h.same b hb hk)
 shape b vs T hb:=by obtain⟨vs',h1,h2⟩:=h.shape b vs T hb;obtain⟨vs'',h3,h4⟩:=l.shape b vs' T h1;exact⟨vs'',h3,h4.trans h2⟩
 bnd:=l.bnd
 sub b i hb hS:=l.sub b i (Nat.lt_of_lt_of_le hb h.size) (h.sub b i hb hS)
 old b i hb hk hS:=h.old b i hb hk (l.old b i (Nat.lt_of_lt_of_le hb h.size) id hS)
theorem RowAt.go {n s:Nat}{els:Unit->List (List D)}(h:RowAt w S β n s els)(l:Leads w S vD w' S')(hb:∀ b i,S b i->b<w.heap.size)(hl:∀ b,β n=some b->b<w.heap.size):RowAt w' S' β n s els:=by have he:=l.evo hb;have hs:=l.subs hb;rcases h with h|⟨b,vs,T,h1,h2,h3,h4,h5⟩;{exact .inl h};{exact .inr ⟨b,vs,T,h1,(l.same b (hl b h1) id).trans h2,h3,h4,fun i j hi hj=>⟨(h5 i j hi hj).1.evo he.same hs,(h5 i j hi hj).2⟩⟩}
theorem RowIn.go {ob:Option Nat}{v:Value}{s:Nat}{els:List (List D)}(h:RowIn w S ob v s els)(l:Leads w S vD w' S')(hb:∀ b i,S b i->b<w.heap.size)(hl:∀ b,ob=some b->b<w.heap.size):RowIn w' S' ob v s els:=by have he:=l.evo hb;have hs:=l.subs hb;rcases h with h|⟨b,cap,us,T,h1,h2,h3,h4,h5,h6,h7⟩;{exact .inl h};{exact .inr ⟨b,cap,us,T,h1,h2,h3,(l.same b (hl b h1) id).trans h4,h5,h6,fun i j hi hj=>⟨(h7 i j hi hj).1.evo he.same hs,(h7 i j hi hj).2⟩⟩}
theorem ObjAt.go {n:Nat}{o:Obj'}(h:ObjAt w S β n o)(l:Leads w S vD w' S')(hb:∀ b i,S b i->b<w.heap.size)(hl:∀ b,Own β n o b->b<w.heap.size):ObjAt w' S' β n o:=by
 have he:=l.evo hb;have hs:=l.subs hb;have hl0:∀ b,β n=some b->b<w.heap.size:=fun b h=>hl b (.inl h);cases o with
 |box cs =>
  obtain⟨b,vs,T,h1,h2,h3,h4⟩:=h;exact⟨b,vs,T,h1,(l.same b (hl0 b h1) id).trans h2,h3,fun j hj=>(h4 j hj).evo he hs⟩
 |arr s els=>exact RowAt.go h l hb hl0| log s els=>exact RowAt.go h l hb hl0| lent s els=>exact⟨RowAt.go h.1 l hb hl0,fun b hβ i hi=>hs _ _ (h.2 b hβ i hi)⟩| mat s rows hs' =>
  obtain⟨hp,h5,h6⟩:=h;refine⟨?_,h5,h6⟩;rcases hp with hp|⟨b,vs,T,h1,h2,h3,h4,h7⟩;{exact .inl hp};{exact .inr ⟨b,vs,T,h1,(l.same b (hl0 b h1) id).trans h2,h3,fun v k hk=>⟨(h4 v k hk).1,(h4 v k hk).2.evo he hs⟩,fun i hi=>(h7 i hi).go l hb fun b hb'=>hl b (.inr ⟨i,hi,hb'⟩)⟩}
theorem ObjsAt.go (h:ObjsAt w S β objs)(l:Leads w S vD w' S')(hb:∀ b i,S b i->b<w.heap.size):ObjsAt w' S' β objs where
 nd:=h.nd
 at_ n o hm:=(h.at_ n o hm).go l hb fun b hβ=>(h.un n o b hm hβ).2
 un n o b hm hβ:=by obtain⟨h1,h2⟩:=h.un n o b hm hβ;exact⟨fun i hS=>h1 i (l.old b i h2 id hS),Nat.lt_of_lt_of_le h2 l.size⟩
 inj:=h.inj
theorem Sim.go (h:Sim w0 S0 K0 N τ objs a w S β)(l:Leads w S vD w' S'):Sim w0 S0 K0 N τ objs a w' S' β where
 dfr:=h.dfr
 sz:=h.sz
 ld:=h.ld.trans l
 tmp t:=(h.tmp t).evo (l.evo h.ld.bnd) (l.subs h.ld.bnd)
 obj:=h.obj.go l h.ld.bnd
 own:=h.own
 keep:=h.keep
theorem m7 (hb:∀ b i,S b i->b<w.heap.size)(o:Obj):Leads w S vD (w.alloc o) (fun b i=>S b i\/b=w.heap.size) where
 size:=by simp
 os:=rfl
 tape:=rfl
 output:=rfl
 same b h _:=heap_alloc_old w o h
 shape b vs T h:=by
  (have hlt:b<w.heap.size:=by rcases Nat.lt_or_ge b w.heap.size with h'|h';{exact h'};{simp[Array.getElem?_eq_none h'] at h});exact⟨vs,by rw[heap_alloc_old w o hlt];exact h,rfl⟩
 bnd b i h:=by simp only[World.size_alloc];rcases h with h|h;{have:=hb b i h;omega};{omega}
 sub b i h h':=.inl h'
 old b i h _ h':=h'.resolve_right (by omega)
theorem vB (hb:∀ b i,S b i->b<w.heap.size)(o:Obj):Leads w S vD (w.alloc o) S where
 size:=by simp
 os:=rfl
 tape:=rfl
 output:=rfl
 same b h _:=heap_alloc_old w o h
 shape b vs T h:=by
  (have hlt:b<w.heap.size:=by rcases Nat.lt_or_ge b w.heap.size with h'|h';{exact h'};{simp[Array.getElem?_eq_none h'] at h});exact⟨vs,by rw[heap_alloc_old w o hlt];exact h,rfl⟩
 bnd b i h:=by simp only[World.size_alloc];have:=hb b i h;omega
 sub b i h h':=h'
 old b i h _ h':=h'
theorem Leads.refl (hb:∀ b i,S b i->b<w.heap.size):Leads w S vD w S:=⟨Nat.le_refl _,rfl,rfl,rfl,fun _ _ _=>rfl,fun b vs T h=>⟨vs,h,rfl⟩,hb,fun _ _ _ h=>h,fun _ _ _ _ h=>h⟩
theorem v7 (hb:∀ b i,S b i->b<w.heap.size):Leads w S vD w.drew S:=⟨Nat.le_refl _,rfl,rfl,rfl,fun _ _ _=>rfl,fun b vs T h=>⟨vs,h,rfl⟩,hb,fun _ _ _ h=>h,fun _ _ _ _ h=>h⟩
theorem s7 (n:Nat):∀ (z:List (List PV)),(∀ e,e∈z->e.length=n)->∀ i j,i<z.length->j<n->(uA z).getD (i*n+j) .any=(z.getD i []).getD j .any
 |[],_,i,j,hi,_=>by simp at hi| x::z,h,0,j,_,hj=>by have hx:=h x (by simp);simp only[uA,Nat.zero_mul,Nat.zero_add,List.getD_cons_zero];rw[List.getD_eq_getElem?_getD,List.getElem?_append_left (by omega),<-List.getD_eq_getElem?_getD]| x::z,h,i+1,j,hi,hj=>by
  (have hx:=h x (by simp);simp only[uA,List.getD_cons_succ];have e:(i+1)*n+j=x.length+(i*n+j):=by rw[Nat.add_mul,hx];omega);rw[e,List.getD_eq_getElem?_getD,List.getElem?_append_right (by omega),<-List.getD_eq_getElem?_getD]
  rw[show x.length+(i*n+j)-x.length=i*n+j by omega];exact s7 n z (fun e he=>h e (by simp[he])) i j (by simpa using hi) hj
theorem hH:∀ (z:List (List PV)),(yV z).length=z.length
 |[]=>rfl| x::z=>by simp[yV,hH z]
theorem sX:∀ (z:List (List PV)) (i:Nat),i<z.length->(yV z).getD i []=xM (z.getD i [])
 |[],i,h=>by simp at h| x::z,0,_=>by simp[yV]| x::z,i+1,h=>by simpa[yV] using sX z i (by simpa using h)
theorem t7:∀ (z:List (List PV)) (n:Nat),(∀ e,e∈z->e.length=n)->∀ e,e∈yV z->e.length=n
 |[],n,_,e,h=>by simp[yV] at h| x::z,n,hn,e,h=>by simp only[yV,List.mem_cons] at h;rcases h with rfl|h;{rw[vV];exact hn x (by simp)};{exact t7 z n (fun e he=>hn e (by simp[he])) e h}
theorem xQ {f:PV->Bool}:∀ {cs:List PV},yN f cs=true->∀ j,j<cs.length->f (cs.getD j .any)=true
 |[],_,j,h=>by simp at h| c::cs,h,0,_=>by simp only[yN,Bool.and_eq_true] at h;simpa using h.1| c::cs,h,j+1,hj=>by simp only[yN,Bool.and_eq_true] at h;simpa using xQ h.2 j (by simpa using hj)
theorem rD:∀ (z:List (List PV)),c6 z=true->∀ i j,i<z.length->j<(z.getD i []).length->p6 ((z.getD i []).getD j .any)=true
 |[],_,i,j,hi,_=>by simp at hi| x::z,h,0,j,_,hj=>by simp only[c6,Bool.and_eq_true] at h;simp only[List.getD_cons_zero] at hj ⊢;exact xQ h.1 j hj| x::z,h,i+1,j,hi,hj=>by simp only[c6,Bool.and_eq_true] at h;simp only[List.getD_cons_succ] at hj ⊢;exact rD z h.2 i j (by simpa using hi) hj
theorem zIF {b n:Nat}{vs:Array Value}{T:TypeId}{els:List (List PV)}(hb:w.heap[b]?=some (.cells vs T (0,0)))(hS:∀ i,S b i)(hr:RepL w S β vs (uA els))(hn:∀ e,e∈els->e.length=n)(hok:c6 els=true)(cap:Nat)(hcap:els.length<=cap):RepD w S (.slice (some ⟨b,0,none⟩) els.length cap) (.sl (yV els)):=by
 by_cases he:els=[];{subst he;exact .sl0 _ _}
 ·have hne:yV els≠[]:=by cases els with
   |nil=>exact absurd rfl he| cons x z=>simp[yV]
  have hlen:els.length=(yV els).length:=(hH els).symm;rw[hlen];have key:∀ i j,i<els.length->j<n->Rep w S β (vs.getD (i*n+j) undef) ((els.getD i []).getD j .any)/\i*n+j<vs.size/\p6 ((els.getD i []).getD j .any)=true:=by
   intro i j hi hj;have h1:i*n+j<(uA els).length:=by
    rw[uX n els hn]
    calc i*n+j<i*n+n:=by omega
     _=(i+1)*n:=by rw[Nat.add_mul];omega
     _<=els.length*n:=Nat.mul_le_mul_right _ hi
   (have h2:=hr.2 (i*n+j) h1;rw[s7 n els hn i j hi hj] at h2;refine⟨h2,by rw[hr.1];exact h1,rD els hok i j hi ?_⟩;have:els.getD i []∈els:=by rw[List.getD_eq_getElem?_getD,List.getElem?_eq_getElem hi];exact List.getElem_mem hi);rw[hn _ this];exact hj
  refine .sl (s:=n) (fun i j=>vs.getD (i*n+j) undef) hne (by rw[<-hlen];exact hcap) (fun i j _ _=>hS _) (t7 els n hn) (fun i j hi hj=>?_) (fun i j hi hj=>?_) (fun i j hi hj=>?_);{rw[<-hlen] at hi;have:=(key i j hi hj).2.1;simp only[World.cell?,hb,Nat.zero_add];simp[this]};{rw[<-hlen] at hi;exact fF (key i j hi hj).1 (eE (key i j hi hj).2.2)};{rw[<-hlen] at hi;rw[sX els i hi,uU];exact bF (key i j hi hj).1 (aR (key i j hi hj).2.2)}
theorem RepL.go {vs:Array Value}{cs:List PV}(h:RepL w S β vs cs)(l:Leads w S vD w' S')(hb:∀ b i,S b i->b<w.heap.size):RepL w' S' β vs cs :=
 ⟨h.1,fun j hj=>(h.2 j hj).evo (l.evo hb) (l.subs hb)⟩
theorem qM {t n by':Nat}{z:List PV}(ht:ty t=.sli n by' z)(hb:∀ b i,S b i->b<w.heap.size){ρ:Operand->Value}{e:Operand->PV}(he:∀ x,Rep w S β (ρ x) (e x)){len:Nat}{parts:Array (Nat×Operand)}{els:List (List PV)} (hf:d5 n (wY e parts.toList) (cF z len)=some els) (hle:len*n<=1000):∃ cells' el,(Instr.buildSlice t len (parts.map fun (i,x)=>(i,ρ x))).run Pg w=.ok (.slice (some ⟨w.heap.size,0,none⟩) len len) (w.alloc (.cells cells' el))/\RepL w S β cells' (uA els)/\(∀ e,e∈els->e.length=n)/\els.length=len:=by
 obtain⟨i,el,j,zv,h1,h2,h3,h4,h5,h6,h7,h8,h9,h10,h11,h12⟩:=w5 ht;subst h11;have hzl:(zv.cells.toList.map x8).length=n:=by simp[h9]
 have hp:=cH (w:=w) (S:=S) (β:=β) he parts.toList;have h9':((parts.map fun (i,x)=>(i,ρ x)).toList)=parts.toList.map fun (p:Nat×Operand)=>(p.1,ρ p.2):=by simp
 have hz0:RepL w S β ((Array.range (len*n)).map (zv.cells[· % zv.cells.size]!)) (uA (cF (zv.cells.toList.map x8) len)):=by
  (have hfl:(uA (cF (zv.cells.toList.map x8) len)).length=len*n:=by rw[uX n _ (fun e he=>by rw[lO _ _ _ he];exact hzl),bH]);refine⟨by rw[hfl];simp,fun j hj=>?_⟩
  rw[hfl] at hj;rw[c5 _ n hzl h10 len j hj];have hm:j%n<n:=Nat.mod_lt _ h10;have e1:(((Array.range (len*n)).map (zv.cells[· % zv.cells.size]!)).getD j undef)=zv.cells.getD (j%n) undef:=by
   (have:j%n<zv.cells.size:=by omega);simp[hj,h9,getElem!_def,Array.getElem?_eq_getElem this]
  rw[e1];exact (uK zv.cells).2 (j%n) (by rw[hzl];exact hm)
 obtain⟨cells',g1,g2,g3,g4⟩:=zBT hp (fun e he=>by rw[lO _ _ _ he];exact hzl) hz0 hf;rw[bH] at g4;have hbig:¬(len*n > 2^24):=by omega
 have hrun:(Instr.buildSlice t len (parts.map fun (i,x)=>(i,ρ x))).run Pg w=.ok (.slice (some ⟨w.heap.size,0,none⟩) len len) (w.alloc (.cells cells' el)):=by
  (have h9'':(Array.map (fun (x:Nat×Operand)=>(x.fst,ρ x.snd)) parts).toList=parts.toList.map fun (p:Nat×Operand)=>(p.1,ρ p.2):=by simp);by_cases hz:len*n=0
  ·(have g1':Instr.fill (fun i=>some (i*n,n)) ((Array.range (len*n)).map fun x=>(#[]:Array Value)[x%(#[]:Array Value).size]!) (parts.toList.map fun (p:Nat×Operand)=>(p.1,ρ p.2))=some cells':=by rw[<-g1,hz];have this:∀ f:Nat->Value,Array.map f (Array.range 0)=#[]:=fun f=>Array.eq_empty_of_size_eq_zero (by simp);rw[this,this]);unfold Instr.buildSlice;simp only[Sem.run_bind,run_underlying h4,Result.andThen_ok,wR h5,h7,hbig,if_false,hz,if_true,Sem.run_pure,gt_iff_lt,Nat.not_lt_zero];simp only[hz] at g1';simp only[h9'',g1',newRow,Sem.run_bind,run_newObj,Sem.run_pure,Result.andThen_ok];rfl
  {unfold Instr.buildSlice;simp only[Sem.run_bind,run_underlying h4,Result.andThen_ok,wR h5,h7,hbig,if_false,hz,bC h5 h6,Sem.run_pure];simp only[h9'',g1,newRow,Sem.run_bind,run_newObj,Sem.run_pure,Result.andThen_ok];rfl}
 exact⟨cells',el,hrun,g2,g3,g4⟩
theorem lJ {t n by':Nat}{z:List PV}(ht:ty t=.sli n by' z)(hb:∀ b i,S b i->b<w.heap.size){ρ:Operand->Value}{e:Operand->PV}(he:∀ x,Rep w S β (ρ x) (e x)){len:Nat}{parts:Array (Nat×Operand)}{els:List (List PV)} (hf:d5 n (wY e parts.toList) (cF z len)=some els) (hle:len*n<=1000) (hok:c6 els=true):∃ w' S' val,(Instr.buildSlice t len (parts.map fun (i,x)=>(i,ρ x))).run Pg w=.ok val w'/\Leads w S vD w' S'/\Rep w' S' β val (slOf els):=by
 obtain⟨cells',el,hrun,g2,g3,g4⟩:=qM ht hb he hf hle;have hl:=m7 (w:=w) hb (.cells cells' el);refine⟨_,_,_,hrun,hl,?_⟩;cases hel:els with
 |nil =>
  (have:len=0:=by rw[<-g4,hel];rfl);subst this
  exact .emp _
 |cons x r =>
  refine .c rfl ?_;have:=zIF (w:=w.alloc (.cells cells' el)) (S:=fun b i=>S b i\/b=w.heap.size) (β:=β) (els:=els) (heap_alloc_new w _) (fun _=>.inr rfl) (g2.go hl hb) g3 hok len (by omega);rw[g4,hel] at this;exact this
end
section
variable {w:World} {S:Nat->Nat->Prop} {β:Bm}
theorem jF {ρ:Operand->Value}{e:Operand->PV}(he:∀ x,Rep w S β (ρ x) (e x)){d l:Unit->Int}{o:Option Operand}(h:sV e d o=some l):(o=none/\l=d)\/∃ x k,o=some x/\ρ x=.int k (l ()):=by unfold sV at h;split at h;{cases h;exact .inl ⟨rfl,rfl⟩};{rename_i x;split at h;{rename_i k n hx;cases h;refine .inr ⟨x,k,rfl,?_⟩;have:=he x;rw[hx] at this;exact xV this};{cases h}}
theorem f9 {t el:Nat}{j:TypeInfo}(hu:Pg.underlying t=some (.slice el))(hj:Pg.info? el=some j){ρ:Operand->Value}{a:Option Addr}{len cap:Nat}(hlc:len<=cap){lo hi:Option Operand}{l h:Int} (h0:0<=l) (h1:l<=h) (h2:h<=(len:Int)) (hl:(lo=none/\l=0)\/∃ x k,lo=some x/\ρ x=.int k l) (hh:(hi=none/\h=len)\/∃ x k,hi=some x/\ρ x=.int k h):(Instr.sliceAt t (.slice a len cap) (lo.map ρ) (hi.map ρ) ((none:Option Operand).map ρ)).run Pg w=.ok (.slice (if cap=l.toNat then a else a.map (·.add (l.toNat*j.size))) (h.toNat-l.toNat) (cap-l.toNat)) w:=by
 have he:(h.toNat:Int)=h:=Int.toNat_of_nonneg (by omega);have hc:h<=(cap:Int):=by omega
 have h0':0<=h:=by omega
 have e1:Pg.elem t=el:=by simp[Program.elem,hu]
 simp only[Option.map_none,m8 hu];rcases hl with⟨rfl,rfl⟩|⟨x,k,rfl,hx⟩ <;> rcases hh with⟨rfl,rfl⟩|⟨y,k',rfl,hy⟩
 {simp[Instr.slice,run_underlying hu,Instr.sliceBounds,wR hj]};{simp[Instr.slice,run_underlying hu,Instr.sliceBounds,run_sliceBound,wR hj,hy,h0',hc]};{simp[Instr.slice,run_underlying hu,Instr.sliceBounds,run_sliceBound,wR hj,hx,h0,h1]};{simp[Instr.slice,run_underlying hu,Instr.sliceBounds,run_sliceBound,wR hj,hx,hy,h0,h0',hc,he,h1]}
theorem zHG (els:List (List D))(l h i:Nat)(hi:i<h-l)(hh:h<=els.length):((els.take h).drop l).getD i []=els.getD (l+i) []:=by simp only[List.getD_eq_getElem?_getD];rw[List.getElem?_drop,List.getElem?_take_of_lt (by omega)]
theorem zDZ {els:List (List D)}{v:Value}(hr:RepD w S v (.sl els)){n:Nat}(hw:∀ e,e∈els->e.length=n){l h:Nat}(h1:l<=h)(h2:h<=els.length):∃ a cap,v=.slice a els.length cap/\els.length<=cap/\RepD w S (.slice (if cap=l then a else a.map (·.add (l*n))) (h-l) (cap-l)) (.sl ((els.take h).drop l)):=by
 rcases qR hr with⟨rfl,a,cap,rfl⟩|⟨b,o,cap,s,vals,hne,hcap,hS,hs,hc,hrr,hone,rfl⟩
 ·(have e1:h=0:=by simpa using h2);have e2:l=0:=by omega
  subst e1 e2;exact⟨a,cap,rfl,Nat.zero_le _,by simpa using RepD.sl0 _ _⟩
 ·refine⟨_,cap,rfl,hcap,?_⟩;by_cases hlt:l<h
  ·have hsn:s=n:=by
    cases els with
    |nil=>exact absurd rfl hne| cons x r=>rw[<-hs x (by simp),hw x (by simp)]
   (subst hsn;have hcl:¬cap=l:=by omega);simp only[hcl,if_false,Option.map_some,uB]
   (have hlen:((els.take h).drop l).length=h-l:=by simp;omega);have key:=RepD.sl (w:=w) (S:=S) (b:=b) (o:=o+l*s) (cap:=cap-l) (s:=s) (els:=(els.take h).drop l) (fun i j=>vals (l+i) j)
    (by intro e;rw[e] at hlen;simp at hlen;omega) (by rw[hlen];omega) (fun i j hi hj=>by rw[hlen] at hi;have:=hS (l+i) j (by omega) hj;rw[Nat.add_mul] at this;rw[show o+l*s+i*s+j=o+(l*s+i*s)+j by omega];exact this)
    (fun e he=>hs e (List.mem_of_mem_take (List.mem_of_mem_drop he)))
    (fun i j hi hj=>by rw[hlen] at hi;have:=hc (l+i) j (by omega) hj;rw[<-this,Nat.add_mul];congr 2;omega)
    (fun i j hi hj=>by rw[hlen] at hi;exact hone (l+i) j (by omega) hj)
    (fun i j hi hj=>by rw[hlen] at hi;rw[zHG els l h i hi h2];exact hrr (l+i) j (by omega) hj)
   rw[hlen] at key;exact key
  ·(have e:l=h:=by omega);subst e
   (have:(els.take l).drop l=[]:=by simp);rw[this,Nat.sub_self]
   exact .sl0 _ _
theorem zLH {els:List (List D)}{v:Value}(hr:RepD w S v (.sl els)){k:Nat}{n:Nat}{c:List PV}(hn:0<n)(hf:yN kQ c=true)(hcl:c.length=n)(hk:els[k]?=some (xM c)):∃ b o cap,v=.slice (some ⟨b,o,none⟩) els.length cap/\k<els.length/\Rep w S β (.pointer (some ⟨b,o+k*n,none⟩)) (.dptr c 0):=by
 have hlt:k<els.length:=by rcases Nat.lt_or_ge k els.length with h|h;{exact h};{rw[List.getElem?_eq_none h] at hk;cases hk}
 rcases qR hr with⟨rfl,a,cap,rfl⟩|⟨b,o,cap,s,vals,hne,hcap,hS,hs,hc,hrr,hone,rfl⟩;{simp at hlt}
 ·(have hg:els.getD k []=xM c:=by rw[List.getD_eq_getElem?_getD,hk];rfl);have hsn:s=n:=by have hm:xM c∈els:=List.mem_of_getElem? hk;rw[<-hs _ hm,vV,hcl]
  subst hsn;refine⟨b,o,cap,rfl,hlt,.dptr (o:=o+k*s) (off:=0) (fun j=>vals k j) (fun j hj=>hS k j hlt (by omega)) hf (fun j hj=>?_) (fun j hj=>?_)⟩;{exact hc k j hlt (by omega)};{have:=hrr k j hlt (by omega);rw[hg,uU] at this;exact this}
end
section
variable {w0:World} {S0:Nat->Nat->Prop} {K0:Nat->Prop} {N:Cx} {τ:Nat->PV} {objs:List (Nat×Obj')} {a:Act} {w:World} {S:Nat->Nat->Prop} {β:Bm}
theorem zA5 (h:Sim w0 S0 K0 N τ objs a w S β){n:Nat}{cs:List PV}(ho:z7 objs n=some (.box cs)):∃ (b:Nat) (vs:Array Value) (T:TypeId),β n=some b/\w.heap[b]?=some (.cells vs T (0,0))/\vs.size=cs.length/\∀ j,j<cs.length->Rep w S β (vs.getD j undef) (cs.getD j .any) :=
 h.obj.at_ n _ (yW ho)
theorem vM {b:Nat}{vs:Array Value}{T:TypeId}{fz:Nat×Nat}(hb:w.heap[b]?=some (.cells vs T fz))(j:Nat)(hj:j<vs.size):w.cell? ⟨b,j,none⟩=some (vs.getD j undef):=by simp only[World.cell?,hb];simp[hj]
theorem zMK {t:Nat}(h:(ty t).isNo=false):∃ d,Pg.underlying t=some d:=by obtain⟨i,d,_,h2,_⟩:=zAV h;exact⟨d,h2⟩
theorem nO {ρ:Operand->Value}{e:Operand->PV}(he:∀ x,Rep w S β (ρ x) (e x)):∀ (l:List Operand),RepL w S β (l.map ρ).toArray (evs e l)
 |[]=>⟨rfl,fun j hj=>by simp[evs] at hj⟩| o::r=>by
  obtain⟨h1,h2⟩:=nO he r;refine⟨by simpa[evs] using h1,fun j hj=>?_⟩;cases j with
  |zero=>simpa[evs] using he o| succ j=>simpa[evs] using h2 j (by simpa[evs] using hj)
theorem RepL.append {vs us:Array Value}{cs ds:List PV}(h:RepL w S β vs cs)(k:RepL w S β us ds):RepL w S β (vs++us) (cs++ds):=by
 refine⟨by simp[h.1,k.1],fun j hj=>?_⟩;by_cases hlt:j<cs.length
 ·(have:=h.2 j hlt;rw[List.getD_eq_getElem?_getD,List.getElem?_append_left hlt,<-List.getD_eq_getElem?_getD];have hv:j<vs.size:=by rw[h.1];exact hlt);simpa[Array.getElem?_append_left hv] using this
 ·(have h2:=k.2 (j-cs.length) (by simp at hj;omega);rw[List.getD_eq_getElem?_getD,List.getElem?_append_right (by omega),<-List.getD_eq_getElem?_getD];have hv:vs.size<=j:=by rw[h.1];omega);rw[<-h.1] at h2 ⊢
  simpa[Array.getElem?_append_right hv] using h2
theorem RepL.le {vs:Array Value}{cs ds:List PV}(h:RepL w S β vs cs)(k:LeL cs ds):RepL w S β vs ds :=
 ⟨h.1.trans (wX k),fun j hj=>(h.2 j (by rw[wX k];exact hj)).le _ (d9 k j hj)⟩
theorem zJS:ObjsAt w S β ([]++[]):=⟨by exact List.nodup_nil,fun n o h=>by simp at h,fun n o b h=>by simp at h,fun n o m o' b h=>by simp at h⟩
theorem bE {o:Oper}{c:Call}{f:Operand}(hop:o.op=.call c)(hc:c.callee=.value f){ρ:Operand->Value}{g:FuncId}{vs:Array Value}(hf:ρ f=.func (.func g) #[] vs)(isf:∀ (vals:Array Value) (w:World),(callFunc g vals).run Pg w=.ok (.enter g vals) w):(execOp ρ o).run Pg w=.ok (.enter g ((c.args.toList.map ρ).toArray++vs)) w:=by have:c.args.map ρ=(c.args.toList.map ρ).toArray:=Array.ext' (by simp);simp only[execOp,hop,resolve,hc,hf,Deferred.ofValue,Sem.run_bind,Sem.run_pure,Result.andThen_ok,invoke,isf,this];simp
theorem b7 {o:Oper}{c:Call}{f:Operand}(hop:o.op=.call c)(hcl:c.callee=.value f){K:PV->Prop}{Km:Act->World->Prop}{Q:Exit->Act->World->Prop}(h:Sim w0 S0 K0 N τ objs a w S β){g:FuncId}{caps:List PV}(hf:ev τ f=.fn g caps) (hs:∃ args' r,LeL (evs (ev τ) c.args.toList++caps) args'/\zM g args' r/\nmIn [] r=true/\K r) (hk:∀ pv w' S' v,K pv->Leads w S vD w' S'->Rep w' S' β v pv->Km (a.put o.dst v) w'):o.wp Pg a w Km Q:=by obtain⟨args',r,hle,hso,hnm,hK⟩:=hs;have hfr:=h.eval f;rw[hf] at hfr;obtain⟨vs,hv,hl,hr⟩:=kT hfr;have hargs:=((nO (fun x=>h.eval x) c.args.toList).append ⟨hl,hr⟩).le hle;unfold Oper.wp;rw[bE hop hcl hv hso.isf,Oper.upon_enter];refine (hso.go w S β _ h.ld.bnd zJS hargs.1 hargs.2).mono ?_;rintro e w' ⟨v,S',β',rfl,hld,hrep,_⟩;have hld':Leads w S vD w' S':=⟨hld.size,hld.os,hld.tape,hld.output,fun b hb _=>hld.same b hb (by rintro⟨n,o,hm,_⟩;simp at hm),hld.shape,hld.bnd,hld.sub,fun b i hb _=>hld.old b i hb (by rintro⟨n,o,hm,_⟩;simp at hm)⟩;exact hk r w' S' v hK hld' (hrep.nmIn (by simp) hnm)
end
end Go.Proofs.YtfainocfaddbdaaGreat
