/- A part of the proof: PmG, PmH, PmI. -/
import Derived.Test.YtboocdbmnfjomaaGreatV05
set_option linter.all false
namespace Go.Proofs.YtboocdbmnfjomaaGreat
open Go
section
variable {w:World} {S:Nat->Nat->Prop} {β:Bm} {K:PV->Prop}
theorem j2 {v:Value}{x:PV}(h:Rep w S β v x)(hp:gU x=true):v.cells.size=(yW x).length/\∀ j,j<(yW x).length->Rep w S β (v.cells.getD j undef) ((yW x).getD j .any):=by
 have one:(∀ cs,v≠.agg cs)->yW x=[x]->v.cells.size=(yW x).length/\∀ j,j<(yW x).length->Rep w S β (v.cells.getD j undef) ((yW x).getD j .any):=by
  (intro hv hx;have hc:v.cells=#[v]:=by unfold Value.cells;split <;> first|(exact absurd rfl (hv _))|rfl);simp_all
 cases x with
 |agg cs =>
  obtain⟨vs,rfl,h1,h2⟩:=qZ h;exact⟨h1,h2⟩
 |int k n=>exact one (by rw[vO h];grind) rfl
 |tt=>exact one (by grind [Zv]) rfl
 |ff=>exact one (by grind [Zw]) rfl
 |bool b=>exact one (by grind [sG]) rfl
 |nbool b=>exact one (by grind [aQ]) rfl
 |str s=>exact one (by grind [YE]) rfl
 |nil=>have hv:=dG h;subst hv;exact one (by grind) rfl
 |sl els=>rcases bB (pU h) with⟨_,a,cap,rfl⟩|⟨b,o,cap,s,vals,_,_,_,_,_,_,_,rfl⟩ <;> exact one (by grind) rfl
 |tup vs=>grind [gU,tE]| ptr n o=>obtain⟨b,_,rfl⟩:=jH h;exact one (by grind) rfl
 |aptr n s i o=>obtain⟨b,_,rfl⟩:=jA h;exact one (by grind) rfl
 |dptr cs o=>obtain⟨b,o',vals,_,rfl,_⟩:=sE h;exact one (by grind) rfl
 |osl n s o l=>rcases uT h with⟨_,_,_,a,rfl⟩|⟨b,cap,vs,T,_,_,_,_,rfl⟩ <;> exact one (by grind) rfl
 |fn f cs=>obtain⟨vs,rfl,_⟩:=dH h;exact one (by grind) rfl
 |nilf=>cases h with|c hf h=>cases hf|nilf=>exact one (by grind) rfl
 |nilp=>cases h with|c hf h=>cases hf|nilp=>exact one (by grind) rfl
 |emp=>obtain⟨a,hv⟩:=eZ h;subst hv;exact one (by grind) rfl
 |any=>grind [gU,tE]
theorem sK {v:Value}{x:PV}(h:Rep w S β v x)(hp:tE x=true):v.oneCell'=true:=by
 cases x with
 |agg cs=>grind [tE]| int k n=>rw[vO h];rfl
 |tt=>rw[Zv h];rfl
 |ff=>rw[Zw h];rfl
 |bool b=>rw[sG h];rfl
 |nbool b=>rw[aQ h];rfl
 |str s=>rw[YE h];rfl
 |nil=>rw[dG h];rfl
 |sl els=>rcases bB (pU h) with⟨_,a,cap,rfl⟩|⟨b,o,cap,s,vals,_,_,_,_,_,_,_,rfl⟩ <;> rfl
 |tup vs=>grind [tE]| ptr n o=>obtain⟨b,_,rfl⟩:=jH h;rfl
 |aptr n s i o=>obtain⟨b,_,rfl⟩:=jA h;rfl
 |dptr cs o=>obtain⟨b,o',vals,_,rfl,_⟩:=sE h;rfl
 |osl n s o l=>rcases uT h with⟨_,_,_,a,rfl⟩|⟨b,cap,vs,T,_,_,_,_,rfl⟩ <;> rfl
 |fn f cs=>obtain⟨vs,rfl,_⟩:=dH h;rfl
 |nilf=>cases h with|c hf h=>cases hf|nilf=>rfl
 |nilp=>cases h with|c hf h=>cases hf|nilp=>rfl
 |emp=>obtain⟨a,hv⟩:=eZ h;subst hv;rfl
 |any=>grind [tE]
theorem WC {x:PV}(h:o8 x=true):tE x=true:=by cases x <;> simp_all [o8,tE,qT]
theorem n7 {x:PV}(h:o8 x=true):iD x=true:=by cases x <;> simp_all [o8,iD,qT]
theorem kQ:∀ (cs:List PV) (n:Nat) (vs:List PV),n+vs.length<=cs.length->(uV cs n vs).length=cs.length
 |c::cs,0,v::vs,h=>by simp only[uV,fH] at *;rw[kQ cs 0 vs oM]| cs,0,[],_=>by grind [uV]| [],n,v::vs,h=>by simp at h| [],n+1,[],h=>by simp at h| c::cs,n+1,vs,h=>by simp only[uV,fH] at *;rw[kQ cs n vs oM]
theorem sB:∀ (cs:List PV) (n:Nat) (vs:List PV),n+vs.length<=cs.length->∀ j,(uV cs n vs).getD j .any=if n<=j/\j<n+vs.length then vs.getD (j-n) .any else cs.getD j .any
 |c::cs,0,v::vs,h,0=>by simp[uV]| c::cs,0,v::vs,h,j+1=>by have:=sB cs 0 vs (by grind) j;grind [uV]| cs,0,[],_,j=>by grind [uV]| [],n,v::vs,h,j=>by simp at h| [],n+1,[],h,j=>by simp at h| c::cs,n+1,vs,h,0=>by simp[uV]| c::cs,n+1,vs,h,j+1=>by have:=sB cs n vs (by grind) j;simp only[uV,SV,this];grind
def RepL (w:World) (S:Nat->Nat->Prop) (β:Bm) (vs:Array Value) (cs:List PV):Prop :=
 vs.size=cs.length/\∀ j,j<cs.length->Rep w S β (vs.getD j undef) (cs.getD j .any)
theorem FG (vs:List Value):∀ (k off:Nat) (cells:Array Value),off+k+vs.length<=cells.size ->((vs.zipIdx k).foldl (λ(cs:Array Value) (p:Value×Nat)=>cs.setIfInBounds (off+p.2) p.1) cells).size=cells.size /\ ∀ j,((vs.zipIdx k).foldl (λ(cs:Array Value) (p:Value×Nat)=>cs.setIfInBounds (off+p.2) p.1) cells).getD j undef=if off+k<=j/\j<off+k+vs.length then vs.getD (j-(off+k)) undef else cells.getD j undef:=by
 induction vs with
 |nil=>intro k off cells h;refine⟨rfl,λj=>?_⟩;simp;omega| cons v vs ih =>
  intro k off cells h;simp only[List.zipIdx_cons,F2,fH] at *;obtain⟨h1,h2⟩:=ih (k+1) off (cells.setIfInBounds (off+k) v) (by grind);refine⟨by grind,λj=>?_⟩;rw[h2 j];by_cases hj:j=off+k
  ·(subst hj;rw[if_neg oM,if_pos oM];have:off+k<cells.size:=by omega);simp[this]
  ·by_cases hr:off+(k+1)<=j/\j<off+(k+1)+vs.length
   ·(rw[if_pos hr,if_pos oM];have:j-(off+k)=(j-(off+(k+1)))+1:=by omega);rw[this,SV]
   {rw[if_neg hr,if_neg oM];simp[Array.getElem?_setIfInBounds_ne (Ne.symm hj)]}
theorem Uu {cells:Array Value}{z:List PV}(hz:RepL w S β cells z){v:Value}{x:PV}(hv:Rep w S β v x)(hp:gU x=true){off:Nat}(hle:off+(yW x).length<=z.length):RepL w S β (v.cells.zipIdx.foldl (λ(cs:Array Value) (p:Value×Nat)=>cs.setIfInBounds (off+p.2) p.1) cells) (uV z off (yW x)):=by
 obtain⟨h1,h2⟩:=j2 hv hp;have hl:v.cells.toList.length=(yW x).length:=by omega
 obtain⟨h3,h4⟩:=FG v.cells.toList 0 off cells (by rw[hl,hz.1];omega);have he:v.cells.zipIdx.foldl (λ(cs:Array Value) (p:Value×Nat)=>cs.setIfInBounds (off+p.2) p.1) cells=(v.cells.toList.zipIdx 0).foldl (λ(cs:Array Value) (p:Value×Nat)=>cs.setIfInBounds (off+p.2) p.1) cells:=by rw[<-Array.foldl_toList,Array.toList_zipIdx]
 rw[he];refine⟨by rw[h3,hz.1,kQ _ _ _ hle],λj hj=>?_⟩;rw[kQ _ _ _ hle] at hj;rw[h4 j,sB _ _ _ hle j,hl];by_cases hr:off+0<=j/\j<off+0+(yW x).length;{rw[if_pos hr,if_pos oM];have:=h2 (j-off) oM;simp_all};{rw[if_neg hr,if_neg oM];exact hz.2 j hj}
theorem jM (zs:Array Value):RepL w S β zs (zs.toList.map w7):=by
 refine⟨by simp,λj hj=>?_⟩;have hj':j<zs.size:=by grind
 have:(zs.toList.map w7).getD j .any=w7 (zs.getD j undef):=by simp_all
 rw[this];exact VG _
inductive PartsRep (w:World) (S:Nat->Nat->Prop) (β:Bm):List (Nat×Value)->List (Nat×PV)->Prop
 |nil:PartsRep w S β [] []
 |cons {i v x r q} (hv:Rep w S β v x) (h:PartsRep w S β r q):PartsRep w S β ((i,v)::r) ((i,x)::q)
theorem pV {ρ:Operand->Value}{e:Operand->PV}(he:∀ x,Rep w S β (ρ x) (e x)):∀ (l:List (Nat×Operand)),PartsRep w S β (l.map λ(p:Nat×Operand)=>(p.1,ρ p.2)) (vA e l)
 |[]=>.nil| (i,o)::r=>.cons (he o) (pV he r)
theorem KX {fs:List (Nat×Nat×Bool)}{place:Nat->Option (Nat×Nat)}(hpl:∀ i off sz ag,fs[i]?=some (off,sz,ag)->place i=some (off,sz)){vps:List (Nat×Value)}{ps:List (Nat×PV)}(h:PartsRep w S β vps ps):∀ {cells:Array Value} {z cs:List PV},RepL w S β cells z->Wg fs ps z=some cs->∃ cells',Instr.fill place cells vps=some cells'/\RepL w S β cells' cs:=by
 induction h with
 |nil=>intro cells z cs hz hf;simp only[Wg,t5] at hf;subst hf;exact⟨cells,rfl,hz⟩| @cons i v x r q hv h ih =>
  intro cells z cs hz hf;unfold Wg at hf;split at hf
  ·rename_i off sz ag hi;cases hc:(nqb (yW x).length sz&&nle (off+sz) z.length&&gU x) with
   |false=>grind| true =>
    (simp only[hc,cond_true] at hf;simp only[xA] at hc;obtain⟨⟨hl,hle⟩,hp⟩:=hc;have hl:=y5 hl;have hle:=mP hle;obtain⟨c1,c2⟩:=j2 hv hp;obtain⟨cells',h1,h2⟩:=ih (Uu hz hv hp oM) hf;refine⟨cells',?_,h2⟩;unfold Instr.fill;rw[hpl _ _ _ _ hi];have hn:¬(v.cells.size≠sz\/off+v.cells.size > cells.size):=by rw[c1,hz.1];omega);grind
  grind
theorem KZ {n:Nat}{vps:List (Nat×Value)}{ps:List (Nat×PV)}(h:PartsRep w S β vps ps):∀ {cells:Array Value} {z cs:List PV},RepL w S β cells z->V9 n ps z=some cs->∃ cells',Instr.fill (λi=>some (i*n,n)) cells vps=some cells'/\RepL w S β cells' cs:=by
 induction h with
 |nil=>intro cells z cs hz hf;simp only[V9,t5] at hf;subst hf;exact⟨cells,rfl,hz⟩| @cons i v x r q hv h ih =>
  intro cells z cs hz hf;unfold V9 at hf;cases hc:(nqb (yW x).length n&&nle (i*n+n) z.length&&gU x) with
  |false=>grind| true =>
   (simp only[hc,cond_true] at hf;simp only[xA] at hc;obtain⟨⟨hl,hle⟩,hp⟩:=hc;have hl:=y5 hl;have hle:=mP hle;obtain⟨c1,c2⟩:=j2 hv hp;obtain⟨cells',h1,h2⟩:=ih (Uu hz hv hp oM) hf;refine⟨cells',?_,h2⟩;unfold Instr.fill;have hn:¬(v.cells.size≠n\/i*n+v.cells.size > cells.size):=by rw[c1,hz.1];omega);grind
theorem Ku (P:Program)(fields:List Field)(hf:∀ f,f∈fields->∃ i,P.info? f.type=some i)(w:World):(fields.mapM λf=>do pure (f.offset,<-sizeOf f.type):Sem (List (Nat×Nat))).run P w=.ok (fields.map λf=>(f.offset,P.cellsOf f.type)) w:=by
 induction fields with
 |nil=>rfl| cons f r ih =>
  (obtain⟨i,hi⟩:=hf f (by simp);have:=ih λg hg=>hf g (by simp[hg]);have e:((do pure (f.offset,<-sizeOf f.type):Sem (Nat×Nat)).run P w)=.ok (f.offset,P.cellsOf f.type) w:=by simp[sizeOf,typeInfo,hi,Program.cellsOf]);rw[List.mapM_cons,Sem.run_bind,e,Result.andThen_ok,Sem.run_bind,this]
  simp
theorem UE {t n:Nat}{fs:List (Nat×Nat×Bool)}{z:List PV}(ht:ty t=.st n fs z){ρ:Operand->Value}{e:Operand->PV}(he:∀ x,Rep w S β (ρ x) (e x)){parts:Array (Nat×Operand)}{cs:List PV} (hf:Wg fs (vA e parts.toList) z=some cs):∃ vs,(Instr.build t (parts.map λ(i,x)=>(i,ρ x))).run Pg w=.ok (.agg vs) w/\RepL w S β vs cs:=by
 obtain⟨i,fields,zs,h1,h2,h3,h4,h5,h6,h7,h8⟩:=Y5 ht;subst h7;have hp:=pV (w:=w) (S:=S) (β:=β) he parts.toList;obtain⟨cells',g1,g2⟩:=KX (place:=λk=>(fields.map λf=>(f.offset,Pg.cellsOf f.type))[k]?) (by grind) hp (jM zs) hf;refine⟨cells',?_,g2⟩;have hm:(fields.mapM λf=>do pure (f.offset,<-sizeOf f.type):Sem (Array (Nat×Nat))).run Pg w=.ok (fields.map λf=>(f.offset,Pg.cellsOf f.type)) w:=by have:=Ku Pg fields.toList (λf hf=>by grind [qM]) w;rw[Array.mapM_eq_mapM_toList,Sem.run_map,this];exact congrArg (λl=>Result.ok l w) (Array.ext' (by simp))
 have h9:((parts.map λ(i,x)=>(i,ρ x)).toList)=parts.toList.map λ(p:Nat×Operand)=>(p.1,ρ p.2):=by simp
 simp only[Instr.build,Sem.run_bind,mF h1 h3,Result.andThen_ok,run_underlying h2,hm,Value.cells,h9,g1,Sem.run_pure]
theorem W7 {t len n:Nat}{ag:Bool}{z:List PV}(ht:ty t=.arr len n ag z){ρ:Operand->Value}{e:Operand->PV}(he:∀ x,Rep w S β (ρ x) (e x)){parts:Array (Nat×Operand)}{cs:List PV} (hf:V9 n (vA e parts.toList) z=some cs):∃ vs,(Instr.build t (parts.map λ(i,x)=>(i,ρ x))).run Pg w=.ok (.agg vs) w/\RepL w S β vs cs:=by
 obtain⟨i,el,zs,h1,h2,h3,h4,h5,h6,h7,h8,h8',h8'',h9⟩:=iB ht;subst h9;have hp:=pV (w:=w) (S:=S) (β:=β) he parts.toList;obtain⟨cells',g1,g2⟩:=KZ hp (jM zs) hf;refine⟨cells',?_,g2⟩;obtain⟨j,hj1,hj2⟩:=qM (t:=el) oM;have h9:((parts.map λ(i,x)=>(i,ρ x)).toList)=parts.toList.map λ(p:Nat×Operand)=>(p.1,ρ p.2):=by simp
 have hs:j.size=n:=hj2.trans h6;simp only[Instr.build,Sem.run_bind,mF h1 h3,Result.andThen_ok,run_underlying h2,Value.cells,h9,vZ hj1,hs,g1,Sem.run_pure]
def kO:List (List PV)->List PV
 |[]=>[]| e::r=>e++kO r
theorem jZ (n:Nat):∀ (z:List (List PV)),(∀ e,e∈z->e.length=n)->(kO z).length=z.length*n
 |[],_=>by simp[kO]| e::r,h=>by have:=jZ n r λe he=>h e (by simp[he]);grind [kO]
theorem rD:∀ (a b vs:List PV),vs.length=a.length->uV (a++b) 0 vs=vs++b
 |[],b,[],_=>by grind [uV]| c::a,b,v::vs,h=>by simp only[Vm,uV];rw[rD a b vs (by grind)]| [],_,_::_,h=>by simp at h| _::_,_,[],h=>by simp at h
theorem sC:∀ (a b vs:List PV) (k:Nat),uV (a++b) (a.length+k) vs=a++uV b k vs
 |[],b,vs,k=>by simp| c::a,b,vs,k=>by
  (have:(c::a).length+k=(a.length+k)+1:=by grind);rw[this]
  simp only[Vm,uV];rw[sC a b vs k]
theorem V8 (n:Nat):∀ (z:List (List PV)) (i:Nat) (e:List PV),(∀ x,x∈z->x.length=n)->e.length=n->i<z.length->kO (z.set i e)=uV (kO z) (i*n) e
 |[],i,e,_,_,hi=>by grind| x::z,0,e,h,he,_=>by simp only[List.set_cons_zero,kO,nF];grind [rD]| x::z,i+1,e,h,he,hi=>by
  (simp only[List.set_cons_succ,kO];rw[V8 n z i e (λy hy=>h y (by simp[hy])) he (by grind)];have:(i+1)*n=x.length+i*n:=by grind);rw[this,sC]
theorem KY {n:Nat}{vps:List (Nat×Value)}{ps:List (Nat×PV)}(h:PartsRep w S β vps ps):∀ {cells:Array Value} {z els:List (List PV)},(∀ e,e∈z->e.length=n)->RepL w S β cells (kO z)->sS n ps z=some els ->∃ cells',Instr.fill (λi=>some (i*n,n)) cells vps=some cells'/\RepL w S β cells' (kO els)/\(∀ e,e∈els->e.length=n)/\els.length=z.length:=by
 induction h with
 |nil=>intro cells z els hn hz hf;simp only[sS,t5] at hf;subst hf;exact⟨cells,rfl,hz,hn,rfl⟩| @cons i v x r q hv h ih =>
  intro cells z els hn hz hf;unfold sS at hf;cases hc:(nqb (yW x).length n&&nlt i z.length&&gU x) with
  |false=>grind| true =>
   (simp only[hc,cond_true] at hf;simp only[xA] at hc;obtain⟨⟨hl,hlt⟩,hp⟩:=hc;have hl:=y5 hl;have hlt:i<z.length:=by simp_all);have hle:i*n+n<=(kO z).length:=by
    rw[jZ n z hn]
    calc i*n+n=(i+1)*n:=by grind
     _<=z.length*n:=uR _ hlt
   (obtain⟨c1,c2⟩:=j2 hv hp;have hs:=Uu hz hv hp (off:=i*n) oM;rw[<-V8 n z i (yW x) hn hl hlt] at hs;obtain⟨cells',h1,h2,h3,h4⟩:=ih (z:=z.set i (yW x)) (λe he=>by grind) hs hf;refine⟨cells',?_,h2,h3,by grind⟩;unfold Instr.fill;have hn':¬(v.cells.size≠n\/i*n+v.cells.size > cells.size):=by rw[c1,hz.1];omega);grind
theorem mK (z:List PV):∀ n,(rO z n).length=n
 |0=>rfl| n+1=>by simp[rO,mK z n]
theorem Xw (z:List PV):∀ n e,e∈rO z n->e=z
 |0,e,h=>by grind [rO]| n+1,e,h=>by simp only[rO,yS] at h;rcases h with h|h;{exact h};{exact Xw z n e h}
theorem tU (z:List PV)(m:Nat)(hm:z.length=m)(hp:0<m):∀ n j,j<n*m->(kO (rO z n)).getD j .any=z.getD (j%m) .any
 |0,j,h=>by simp at h| n+1,j,h=>by simp only[rO,kO];by_cases hj:j<m;{grind [Nat.mod_eq_of_lt]};{rw[wM,dB oM,<-wM,hm];rw[tU z m hm hp n (j-m) (by grind)];grind [Nat.mod_eq_sub_mod]}
end
def qJ:Nat->Prop:=λ_=>False
section
variable {w0:World} {S0:Nat->Nat->Prop} {K0:Nat->Prop} {N:Cx} {τ:Nat->PV} {objs:List (Nat×Obj')} {a:Act} {w w':World} {S S':Nat->Nat->Prop} {β:Bm}
theorem Leads.evo (l:Leads w S qJ w' S')(hb:∀ b i,S b i->b<w.heap.size):Evo S w w' where
 same b i hS:=rT (l.same b (hb b i hS) id) i
 shape b vs T h:=l.shape b vs T h
theorem Leads.subs {K:Nat->Prop}(l:Leads w S K w' S')(hb:∀ b i,S b i->b<w.heap.size):∀ b i,S b i->S' b i:=λb i hS=>l.sub b i (hb b i hS) hS
theorem Leads.trans (h:Leads w0 S0 K0 w S)(l:Leads w S qJ w' S'):Leads w0 S0 K0 w' S' where
 size:=vF h.size l.size
 os:=l.os.trans h.os
 tape:=l.tape.trans h.tape
 output:=l.output.trans h.output
 same b hb hk:=(l.same b (f7 hb h.size) id).trans (h.same b hb hk)
 shape b vs T hb:=by obtain⟨vs',h1,h2⟩:=h.shape b vs T hb;obtain⟨vs'',h3,h4⟩:=l.shape b vs' T h1;grind
 bnd:=l.bnd
 sub b i hb hS:=l.sub b i (f7 hb h.size) (h.sub b i hb hS)
 old b i hb hk hS:=h.old b i hb hk (l.old b i (f7 hb h.size) id hS)
theorem RowAt.go {n s:Nat}{els:Unit->List (List D)}(h:RowAt w S β n s els)(l:Leads w S qJ w' S')(hb:∀ b i,S b i->b<w.heap.size)(hl:∀ b,β n=some b->b<w.heap.size):RowAt w' S' β n s els:=by have he:=l.evo hb;have hs:=l.subs hb;rcases h with h|⟨b,vs,T,h1,h2,h3,h4,h5⟩;{exact .inl h};{exact .inr ⟨b,vs,T,h1,(l.same b (hl b h1) id).trans h2,h3,h4,λi j hi hj=>⟨(h5 i j hi hj).1.evo he.same hs,(h5 i j hi hj).2⟩⟩}
theorem RowIn.go {ob:Option Nat}{v:Value}{s:Nat}{els:List (List D)}(h:RowIn w S ob v s els)(l:Leads w S qJ w' S')(hb:∀ b i,S b i->b<w.heap.size)(hl:∀ b,ob=some b->b<w.heap.size):RowIn w' S' ob v s els:=by have he:=l.evo hb;have hs:=l.subs hb;rcases h with h|⟨b,cap,us,T,h1,h2,h3,h4,h5,h6,h7⟩;{exact .inl h};{exact .inr ⟨b,cap,us,T,h1,h2,h3,(l.same b (hl b h1) id).trans h4,h5,h6,λi j hi hj=>⟨(h7 i j hi hj).1.evo he.same hs,(h7 i j hi hj).2⟩⟩}
theorem ObjAt.go {n:Nat}{o:Obj'}(h:ObjAt w S β n o)(l:Leads w S qJ w' S')(hb:∀ b i,S b i->b<w.heap.size)(hl:∀ b,Own β n o b->b<w.heap.size):ObjAt w' S' β n o:=by
 have he:=l.evo hb;have hs:=l.subs hb;have hl0:∀ b,β n=some b->b<w.heap.size:=λb h=>hl b (.inl h);cases o with
 |box cs =>
  obtain⟨b,vs,T,h1,h2,h3,h4⟩:=h;exact⟨b,vs,T,h1,(l.same b (hl0 b h1) id).trans h2,h3,λj hj=>(h4 j hj).evo he hs⟩
 |arr s els=>exact RowAt.go h l hb hl0| log s els=>exact RowAt.go h l hb hl0| lent s els=>exact⟨RowAt.go h.1 l hb hl0,λb hβ i hi=>hs _ _ (h.2 b hβ i hi)⟩| mat s rows hs' =>
  obtain⟨hp,h5,h6⟩:=h;refine⟨?_,h5,h6⟩;rcases hp with hp|⟨b,vs,T,h1,h2,h3,h4,h7⟩;{grind};{exact .inr ⟨b,vs,T,h1,(l.same b (hl0 b h1) id).trans h2,h3,λv k hk=>⟨(h4 v k hk).1,(h4 v k hk).2.evo he hs⟩,λi hi=>(h7 i hi).go l hb λb hb'=>hl b (.inr ⟨i,hi,hb'⟩)⟩}
theorem ObjsAt.go (h:ObjsAt w S β objs)(l:Leads w S qJ w' S')(hb:∀ b i,S b i->b<w.heap.size):ObjsAt w' S' β objs where
 nd:=h.nd
 at_ n o hm:=(h.at_ n o hm).go l hb λb hβ=>(h.un n o b hm hβ).2
 un n o b hm hβ:=by obtain⟨h1,h2⟩:=h.un n o b hm hβ;exact⟨λi hS=>h1 i (l.old b i h2 id hS),f7 h2 l.size⟩
 inj:=h.inj
theorem Sim.go (h:Sim w0 S0 K0 N τ objs a w S β)(l:Leads w S qJ w' S'):Sim w0 S0 K0 N τ objs a w' S' β where
 dfr:=h.dfr
 sz:=h.sz
 ld:=h.ld.trans l
 tmp t:=(h.tmp t).evo (l.evo h.ld.bnd) (l.subs h.ld.bnd)
 obj:=h.obj.go l h.ld.bnd
 own:=h.own
 keep:=h.keep
theorem Yp (hb:∀ b i,S b i->b<w.heap.size)(o:Obj):Leads w S qJ (w.alloc o) (λb i=>S b i\/b=w.heap.size) where
 size:=by simp
 os:=rfl
 tape:=rfl
 output:=rfl
 same b h _:=heap_alloc_old w o h
 shape b vs T h:=by
  (have hlt:b<w.heap.size:=by grind);exact⟨vs,by grind [heap_alloc_old],rfl⟩
 bnd b i h:=by grind [World.size_alloc]
 sub b i h h':=.inl h'
 old b i h _ h':=h'.resolve_right oM
theorem uC (hb:∀ b i,S b i->b<w.heap.size)(o:Obj):Leads w S qJ (w.alloc o) S where
 size:=by simp
 os:=rfl
 tape:=rfl
 output:=rfl
 same b h _:=heap_alloc_old w o h
 shape b vs T h:=by
  (have hlt:b<w.heap.size:=by grind);exact⟨vs,by grind [heap_alloc_old],rfl⟩
 bnd b i h:=by grind [World.size_alloc]
 sub b i h h':=h'
 old b i h _ h':=h'
theorem Leads.refl (hb:∀ b i,S b i->b<w.heap.size):Leads w S qJ w S:=⟨yQ _,rfl,rfl,rfl,λ_ _ _=>rfl,λb vs T h=>⟨vs,h,rfl⟩,hb,λ_ _ _ h=>h,λ_ _ _ _ h=>h⟩
theorem fF (hb:∀ b i,S b i->b<w.heap.size):Leads w S qJ w.drew S:=⟨yQ _,rfl,rfl,rfl,λ_ _ _=>rfl,λb vs T h=>⟨vs,h,rfl⟩,hb,λ_ _ _ h=>h,λ_ _ _ _ h=>h⟩
theorem iS (n:Nat):∀ (z:List (List PV)),(∀ e,e∈z->e.length=n)->∀ i j,i<z.length->j<n->(kO z).getD (i*n+j) .any=(z.getD i []).getD j .any
 |[],_,i,j,hi,_=>by grind| x::z,h,0,j,_,hj=>by have hx:=h x (by simp);simp only[kO,nF,wQ,Rx];grind| x::z,h,i+1,j,hi,hj=>by
  (have hx:=h x (by simp);simp only[kO,SV];have e:(i+1)*n+j=x.length+(i*n+j):=by grind);rw[e,wM,dB oM,<-wM]
  rw[show x.length+(i*n+j)-x.length=i*n+j by omega];exact iS n z (λe he=>h e (by simp[he])) i j (by grind) hj
theorem pZ:∀ (z:List (List PV)),(zI z).length=z.length
 |[]=>rfl| x::z=>by simp[zI,pZ z]
theorem iN:∀ (z:List (List PV)) (i:Nat),i<z.length->(zI z).getD i []=y7 (z.getD i [])
 |[],i,h=>by simp at h| x::z,0,_=>by simp[zI]| x::z,i+1,h=>by simpa[zI] using iN z i (by grind)
theorem ZF:∀ (z:List (List PV)) (n:Nat),(∀ e,e∈z->e.length=n)->∀ e,e∈zI z->e.length=n
 |[],n,_,e,h=>by grind [zI]| x::z,n,hn,e,h=>by simp only[zI,yS] at h;rcases h with rfl|h;{grind [fR]};{exact ZF z n (λe he=>hn e (by simp[he])) e h}
theorem wV {f:PV->Bool}:∀ {cs:List PV},yX f cs=true->∀ j,j<cs.length->f (cs.getD j .any)=true
 |[],_,j,h=>by simp at h| c::cs,h,0,_=>by simp only[yX,xA] at h;grind| c::cs,h,j+1,hj=>by simp only[yX,xA] at h;simpa using wV h.2 j (by grind)
theorem iX:∀ (z:List (List PV)),m5 z=true->∀ i j,i<z.length->j<(z.getD i []).length->o8 ((z.getD i []).getD j .any)=true
 |[],_,i,j,hi,_=>by grind| x::z,h,0,j,_,hj=>by simp only[m5,xA] at h;grind [wV]| x::z,h,i+1,j,hi,hj=>by simp only[m5,xA] at h;simp only[SV] at hj ⊢;exact iX z h.2 i j (by grind) hj
theorem Cd {b n:Nat}{vs:Array Value}{T:TypeId}{els:List (List PV)}(hb:w.heap[b]?=some (.cells vs T (0,0)))(hS:∀ i,S b i)(hr:RepL w S β vs (kO els))(hn:∀ e,e∈els->e.length=n)(hok:m5 els=true)(cap:Nat)(hcap:els.length<=cap):RepD w S (.slice (some ⟨b,0,none⟩) els.length cap) (.sl (zI els)):=by
 by_cases he:els=[];{subst he;exact .sl0 _ _}
 ·have hne:zI els≠[]:=by cases els with
   |nil=>grind| cons x z=>simp[zI]
  have hlen:els.length=(zI els).length:=(pZ els).symm;rw[hlen];have key:∀ i j,i<els.length->j<n->Rep w S β (vs.getD (i*n+j) undef) ((els.getD i []).getD j .any)/\i*n+j<vs.size/\o8 ((els.getD i []).getD j .any)=true:=by
   intro i j hi hj;have h1:i*n+j<(kO els).length:=by
    rw[jZ n els hn]
    calc i*n+j<i*n+n:=by omega
     _=(i+1)*n:=by grind
     _<=els.length*n:=uR _ hi
   have h2:=hr.2 (i*n+j) h1;rw[iS n els hn i j hi hj] at h2;refine⟨h2,by rw[hr.1];exact h1,iX els hok i j hi ?_⟩;grind
  refine .sl (s:=n) (λi j=>vs.getD (i*n+j) undef) hne oM (λi j _ _=>hS _) (ZF els n hn) (λi j hi hj=>?_) (λi j hi hj=>?_) (λi j hi hj=>?_);{rw[<-hlen] at hi;have:=(key i j hi hj).2.1;simp only[World.cell?,hb,wQ];simp_all};{grind [sK,WC]};{rw[<-hlen] at hi;rw[iN els i hi,fS];grind [mI,n7]}
theorem RepL.go {vs:Array Value}{cs:List PV}(h:RepL w S β vs cs)(l:Leads w S qJ w' S')(hb:∀ b i,S b i->b<w.heap.size):RepL w' S' β vs cs :=
 ⟨h.1,λj hj=>(h.2 j hj).evo (l.evo hb) (l.subs hb)⟩
theorem k8 {t n by':Nat}{z:List PV}(ht:ty t=.sli n by' z)(hb:∀ b i,S b i->b<w.heap.size){ρ:Operand->Value}{e:Operand->PV}(he:∀ x,Rep w S β (ρ x) (e x)){len:Nat}{parts:Array (Nat×Operand)}{els:List (List PV)} (hf:sS n (vA e parts.toList) (rO z len)=some els) (hle:len*n<=1000):∃ cells' el,(Instr.buildSlice t len (parts.map λ(i,x)=>(i,ρ x))).run Pg w=.ok (.slice (some ⟨w.heap.size,0,none⟩) len len) (w.alloc (.cells cells' el))/\RepL w S β cells' (kO els)/\(∀ e,e∈els->e.length=n)/\els.length=len:=by
 obtain⟨i,el,j,zv,h1,h2,h3,h4,h5,h6,h7,h8,h9,h10,h11,h12⟩:=uK ht;subst h11;have hzl:(zv.cells.toList.map w7).length=n:=by simp[h9]
 have hp:=pV (w:=w) (S:=S) (β:=β) he parts.toList;have h9':((parts.map λ(i,x)=>(i,ρ x)).toList)=parts.toList.map λ(p:Nat×Operand)=>(p.1,ρ p.2):=by simp
 have hz0:RepL w S β ((Array.range (len*n)).map (zv.cells[· % zv.cells.size]!)) (kO (rO (zv.cells.toList.map w7) len)):=by
  (have hfl:(kO (rO (zv.cells.toList.map w7) len)).length=len*n:=by grind [jZ,Xw,mK]);refine⟨by grind,λj hj=>?_⟩
  (rw[hfl] at hj;rw[tU _ n hzl h10 len j hj];have hm:j%n<n:=uQ _ h10;have e1:(((Array.range (len*n)).map (zv.cells[· % zv.cells.size]!)).getD j undef)=zv.cells.getD (j%n) undef:=by simp_all);rw[e1]
  exact (jM zv.cells).2 (j%n) oM
 obtain⟨cells',g1,g2,g3,g4⟩:=KY hp (λe he=>by grind [Xw]) hz0 hf;rw[mK] at g4;have hbig:¬(len*n > 2^24):=by omega
 have hrun:(Instr.buildSlice t len (parts.map λ(i,x)=>(i,ρ x))).run Pg w=.ok (.slice (some ⟨w.heap.size,0,none⟩) len len) (w.alloc (.cells cells' el)):=by
  (have h9'':(Array.map (λ(x:Nat×Operand)=>(x.fst,ρ x.snd)) parts).toList=parts.toList.map λ(p:Nat×Operand)=>(p.1,ρ p.2):=by simp);by_cases hz:len*n=0
  ·(have g1':Instr.fill (λi=>some (i*n,n)) ((Array.range (len*n)).map λx=>(#[]:Array Value)[x%(#[]:Array Value).size]!) (parts.toList.map λ(p:Nat×Operand)=>(p.1,ρ p.2))=some cells':=by grind);unfold Instr.buildSlice
   simp only[Sem.run_bind,run_underlying h4,Result.andThen_ok,vZ h5,h7,hbig,if_false,hz,if_true,Sem.run_pure,gt_iff_lt,Nat.not_lt_zero];simp only[hz] at g1';simp only[h9'',g1',newRow,Sem.run_bind,run_newObj,Sem.run_pure,Result.andThen_ok];rfl
  {unfold Instr.buildSlice;simp only[Sem.run_bind,run_underlying h4,Result.andThen_ok,vZ h5,h7,hbig,if_false,hz,mF h5 h6,Sem.run_pure];simp only[h9'',g1,newRow,Sem.run_bind,run_newObj,Sem.run_pure,Result.andThen_ok];rfl}
 grind
theorem Xs {t n by':Nat}{z:List PV}(ht:ty t=.sli n by' z)(hb:∀ b i,S b i->b<w.heap.size){ρ:Operand->Value}{e:Operand->PV}(he:∀ x,Rep w S β (ρ x) (e x)){len:Nat}{parts:Array (Nat×Operand)}{els:List (List PV)} (hf:sS n (vA e parts.toList) (rO z len)=some els) (hle:len*n<=1000) (hok:m5 els=true):∃ w' S' val,(Instr.buildSlice t len (parts.map λ(i,x)=>(i,ρ x))).run Pg w=.ok val w'/\Leads w S qJ w' S'/\Rep w' S' β val (AR els):=by
 obtain⟨cells',el,hrun,g2,g3,g4⟩:=k8 ht hb he hf hle;have hl:=Yp (w:=w) hb (.cells cells' el);refine⟨_,_,_,hrun,hl,?_⟩;cases hel:els with
 |nil =>
  (have:len=0:=by grind);subst this
  exact .emp _
 |cons x r =>
  refine .c rfl ?_;have:=Cd (w:=w.alloc (.cells cells' el)) (S:=λb i=>S b i\/b=w.heap.size) (β:=β) (els:=els) (heap_alloc_new w _) (λ_=>.inr rfl) (g2.go hl hb) g3 hok len oM;rw[g4,hel] at this;exact this
end
section
variable {w:World} {S:Nat->Nat->Prop} {β:Bm}
theorem cJ {ρ:Operand->Value}{e:Operand->PV}(he:∀ x,Rep w S β (ρ x) (e x)){d l:Unit->Int}{o:Option Operand}(h:iM e d o=some l):(o=none/\l=d)\/∃ x k,o=some x/\ρ x=.int k (l ()):=by unfold iM at h;split at h;{grind};{rename_i x;split at h;{rename_i k n hx;cases h;refine .inr ⟨x,k,rfl,?_⟩;have:=he x;rw[hx] at this;exact vO this};grind}
theorem rN {t el:Nat}{j:TypeInfo}(hu:Pg.underlying t=some (.slice el))(hj:Pg.info? el=some j){ρ:Operand->Value}{a:Option Addr}{len cap:Nat}(hlc:len<=cap){lo hi:Option Operand}{l h:Int} (h0:0<=l) (h1:l<=h) (h2:h<=(len:Int)) (hl:(lo=none/\l=0)\/∃ x k,lo=some x/\ρ x=.int k l) (hh:(hi=none/\h=len)\/∃ x k,hi=some x/\ρ x=.int k h):(Instr.sliceAt t (.slice a len cap) (lo.map ρ) (hi.map ρ) ((none:Option Operand).map ρ)).run Pg w=.ok (.slice (if cap=l.toNat then a else a.map (·.add (l.toNat*j.size))) (h.toNat-l.toNat) (cap-l.toNat)) w:=by
 have he:(h.toNat:Int)=h:=Int.toNat_of_nonneg oM;have hc:h<=(cap:Int):=by omega
 have h0':0<=h:=by omega
 have e1:Pg.elem t=el:=by simp[Program.elem,hu]
 simp only[Option.map_none,Yt hu];rcases hl with⟨rfl,rfl⟩|⟨x,k,rfl,hx⟩ <;> rcases hh with⟨rfl,rfl⟩|⟨y,k',rfl,hy⟩
 {simp[Instr.slice,run_underlying hu,Instr.sliceBounds,vZ hj]};{simp[Instr.slice,run_underlying hu,Instr.sliceBounds,run_sliceBound,vZ hj,hy,h0',hc]};{simp[Instr.slice,run_underlying hu,Instr.sliceBounds,run_sliceBound,vZ hj,hx,h0,h1]};{simp[Instr.slice,run_underlying hu,Instr.sliceBounds,run_sliceBound,vZ hj,hx,hy,h0,h0',hc,he,h1]}
theorem lO {t el:Nat}{j:TypeInfo}(hu:Pg.underlying t=some (.slice el))(hj:Pg.info? el=some j){ρ:Operand->Value}{a:Option Addr}{len cap:Nat}{y z:Operand}{ky kz:IntKind}{h k:Int} (h0:0<=h) (h1:h<=k) (h2:k<=(cap:Int)) (hy:ρ y=.int ky h) (hz:ρ z=.int kz k):(Instr.sliceAt t (.slice a len cap) ((none:Option Operand).map ρ) ((some y).map ρ) ((some z).map ρ)).run Pg w=.ok (.slice a h.toNat k.toNat) w:=by
 have hk0:0<=k:=by omega
 have he:h<=(k.toNat:Int):=by omega
 have h3:∀ x:Addr,x.add 0=x:=λx=>by simp[Addr.add]
 have h4:(λx:Addr=>x.add 0)=id:=funext h3;simp[Instr.sliceAt,Instr.slice,run_underlying hu,Instr.sliceBounds,vZ hj,hy,hz,h4,Instr.sliceBound,asIntOf,h0,h2,hk0];intro hh;exact absurd hh oM
theorem JL {els:List (List D)}{v:Value}(hr:RepD w S v (.sl els)){n:Nat}(hw:∀ e,e∈els->e.length=n){l h:Nat}(h1:l<=h)(h2:h<=els.length):∃ a cap,v=.slice a els.length cap/\els.length<=cap/\RepD w S (.slice (if cap=l then a else a.map (·.add (l*n))) (h-l) (cap-l)) (.sl ((els.take h).drop l)):=by
 rcases bB hr with⟨rfl,a,cap,rfl⟩|⟨b,o,cap,s,vals,hne,hcap,hS,hs,hc,hrr,hone,rfl⟩
 ·(have e1:h=0:=by grind);have e2:l=0:=by omega
  subst e1 e2;exact⟨a,cap,rfl,xO _,by simpa using RepD.sl0 _ _⟩
 ·refine⟨_,cap,rfl,hcap,?_⟩;by_cases hlt:l<h
  ·have hsn:s=n:=by
    cases els with
    |nil=>grind| cons x r=>simp_all
   (subst hsn;have hcl:¬cap=l:=by omega);simp only[hcl,if_false,Option.map_some,jT]
   (have hlen:((els.take h).drop l).length=h-l:=by grind);have key:=RepD.sl (w:=w) (S:=S) (b:=b) (o:=o+l*s) (cap:=cap-l) (s:=s) (els:=(els.take h).drop l) (λi j=>vals (l+i) j)
    (by grind) oM (λi j hi hj=>by rw[hlen] at hi;have:=hS (l+i) j oM hj;grind)
    (λe he=>hs e (nC (Jw he)))
    (λi j hi hj=>by grind)
    (λi j hi hj=>by grind)
    (λi j hi hj=>by grind)
   grind
  ·(have e:l=h:=by omega);subst e
   (have:(els.take l).drop l=[]:=by simp);rw[this,iA]
   exact .sl0 _ _
theorem Sz {els:List (List D)}{v:Value}(hr:RepD w S v (.sl els)){k:Nat}{n:Nat}{c:List PV}(hn:0<n)(hf:yX qT c=true)(hcl:c.length=n)(hk:els[k]?=some (y7 c)):∃ b o cap,v=.slice (some ⟨b,o,none⟩) els.length cap/\k<els.length/\Rep w S β (.pointer (some ⟨b,o+k*n,none⟩)) (.dptr c 0):=by
 have hlt:k<els.length:=by grind
 rcases bB hr with⟨rfl,a,cap,rfl⟩|⟨b,o,cap,s,vals,hne,hcap,hS,hs,hc,hrr,hone,rfl⟩;{grind}
 ·(have hg:els.getD k []=y7 c:=by grind);have hsn:s=n:=by grind [fR]
  subst hsn;refine⟨b,o,cap,rfl,hlt,.dptr (o:=o+k*s) (off:=0) (λj=>vals k j) (λj hj=>hS k j hlt oM) hf (λj hj=>?_) (λj hj=>?_)⟩
  all_goals grind [fS]
end
section
variable {w0:World} {S0:Nat->Nat->Prop} {K0:Nat->Prop} {N:Cx} {τ:Nat->PV} {objs:List (Nat×Obj')} {a:Act} {w:World} {S:Nat->Nat->Prop} {β:Bm}
theorem UQ (h:Sim w0 S0 K0 N τ objs a w S β){n:Nat}{cs:List PV}(ho:yK objs n=some (.box cs)):∃ (b:Nat) (vs:Array Value) (T:TypeId),β n=some b/\w.heap[b]?=some (.cells vs T (0,0))/\vs.size=cs.length/\∀ j,j<cs.length->Rep w S β (vs.getD j undef) (cs.getD j .any) :=
 h.obj.at_ n _ (xH ho)
theorem gQ {b:Nat}{vs:Array Value}{T:TypeId}{fz:Nat×Nat}(hb:w.heap[b]?=some (.cells vs T fz))(j:Nat)(hj:j<vs.size):w.cell? ⟨b,j,none⟩=some (vs.getD j undef):=by simp only[World.cell?,hb];simp[hj]
theorem RF {t:Nat}(h:(ty t).isNo=false):∃ d,Pg.underlying t=some d:=by grind [Uk]
theorem YP {ρ:Operand->Value}{e:Operand->PV}(he:∀ x,Rep w S β (ρ x) (e x)):∀ (l:List Operand),RepL w S β (l.map ρ).toArray (evs e l)
 |[]=>⟨rfl,λj hj=>by grind [evs]⟩| o::r=>by
  obtain⟨h1,h2⟩:=YP he r;refine⟨by grind [evs],λj hj=>?_⟩;cases j with
  |zero=>simpa[evs] using he o| succ j=>simpa[evs] using h2 j (by grind [evs])
theorem RepL.append {vs us:Array Value}{cs ds:List PV}(h:RepL w S β vs cs)(k:RepL w S β us ds):RepL w S β (vs++us) (cs++ds):=by
 refine⟨by simp[h.1,k.1],λj hj=>?_⟩;by_cases hlt:j<cs.length
 ·(have:=h.2 j hlt;rw[wM,pK hlt,<-wM];have hv:j<vs.size:=by rw[h.1];exact hlt);simpa[Array.getElem?_append_left hv] using this
 ·(have h2:=k.2 (j-cs.length) (by grind);rw[wM,dB oM,<-wM];have hv:vs.size<=j:=by rw[h.1];omega);rw[<-h.1] at h2 ⊢
  simpa[Array.getElem?_append_right hv] using h2
theorem RepL.le {vs:Array Value}{cs ds:List PV}(h:RepL w S β vs cs)(k:LeL cs ds):RepL w S β vs ds :=
 ⟨h.1.trans (uS k),λj hj=>(h.2 j (by grind [uS])).le _ (pL k j hj)⟩
theorem CD:ObjsAt w S β ([]++[]):=⟨by grind,λn o h=>by simp at h,λn o b h=>by simp at h,λn o m o' b h=>by simp at h⟩
theorem mH {o:Oper}{c:Call}{f:Operand}(hop:o.op=.call c)(hc:c.callee=.value f){ρ:Operand->Value}{g:FuncId}{vs:Array Value}(hf:ρ f=.func (.func g) #[] vs)(isf:∀ (vals:Array Value) (w:World),(callFunc g vals).run Pg w=.ok (.enter g vals) w):(execOp ρ o).run Pg w=.ok (.enter g ((c.args.toList.map ρ).toArray++vs)) w:=by have:c.args.map ρ=(c.args.toList.map ρ).toArray:=Array.ext' (by simp);simp only[execOp,hop,resolve,hc,hf,Deferred.ofValue,Sem.run_bind,Sem.run_pure,Result.andThen_ok,invoke,isf,this];simp
theorem m7 {o:Oper}{c:Call}{f:Operand}(hop:o.op=.call c)(hcl:c.callee=.value f){K:PV->Prop}{Km:Act->World->Prop}{Q:Exit->Act->World->Prop}(h:Sim w0 S0 K0 N τ objs a w S β){g:FuncId}{caps:List PV}(hf:ev τ f=.fn g caps) (hs:∃ args' r,LeL (evs (ev τ) c.args.toList++caps) args'/\zH g args' r/\nmIn [] r=true/\K r) (hk:∀ pv w' S' v,K pv->Leads w S qJ w' S'->Rep w' S' β v pv->Km (a.put o.dst v) w'):o.wp Pg a w Km Q:=by obtain⟨args',r,hle,hso,hnm,hK⟩:=hs;have hfr:=h.eval f;rw[hf] at hfr;obtain⟨vs,hv,hl,hr⟩:=dH hfr;have hargs:=((YP (λx=>h.eval x) c.args.toList).append ⟨hl,hr⟩).le hle;unfold Oper.wp;rw[mH hop hcl hv hso.isf,Oper.upon_enter];refine (hso.go w S β _ h.ld.bnd CD hargs.1 hargs.2).mono ?_;rintro e w' ⟨v,S',β',rfl,hld,hrep,_⟩;have hld':Leads w S qJ w' S':=⟨hld.size,hld.os,hld.tape,hld.output,λb hb _=>hld.same b hb (by rintro⟨n,o,hm,_⟩;grind),hld.shape,hld.bnd,hld.sub,λb i hb _=>hld.old b i hb (by rintro⟨n,o,hm,_⟩;grind)⟩;exact hk r w' S' v hK hld' (hrep.nmIn (by simp) hnm)
end
end Go.Proofs.YtboocdbmnfjomaaGreat
