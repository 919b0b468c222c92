/- A part of the proof: PmH, PmI. -/
import Derived.Test.YtaeaffgjdcigoaaGreatG05
set_option linter.all false
namespace Go.Proofs.YtaeaffgjdcigoaaGreat
open Go
def u7:Nat->Prop:=λ_=>False
section
variable {w0:World} {S0:Nat->Nat->Prop} {K0:Nat->Prop} {N:Cx} {τ:Nat->PV} {objs:List (Nat×Obj')} {a:Act} {w w':World} {S S':Nat->Nat->Prop} {β:Bm}
theorem Leads.evo (l:Leads w S u7 w' S')(hb:∀ b i,S b i->b<w.heap.size):Evo S w w' where
 same b i hS:=cO (l.same b (hb b i hS) id) i
 shape b vs T h:=l.shape b vs T h
theorem Leads.subs {K:Nat->Prop}(l:Leads w S K w' S')(hb:∀ b i,S b i->b<w.heap.size):∀ b i,S b i->S' b i:=λb i hS=>l.sub b i (hb b i hS) hS
theorem Leads.trans (h:Leads w0 S0 K0 w S)(l:Leads w S u7 w' S'):Leads w0 S0 K0 w' S' where
 size:=vR h.size l.size
 os:=l.os.trans h.os
 tape:=l.tape.trans h.tape
 output:=l.output.trans h.output
 same b hb hk:=(l.same b (uR hb h.size) id).trans (h.same b hb hk)
 shape b vs T hb:=by obtain⟨vs',h1,h2⟩:=h.shape b vs T hb;obtain⟨vs'',h3,h4⟩:=l.shape b vs' T h1;grind
 bnd:=l.bnd
 sub b i hb hS:=l.sub b i (uR hb h.size) (h.sub b i hb hS)
 old b i hb hk hS:=h.old b i hb hk (l.old b i (uR hb h.size) id hS)
theorem RowAt.go {n s:Nat}{els:Unit->List (List D)}(h:RowAt w S β n s els)(l:Leads w S u7 w' S')(hb:∀ b i,S b i->b<w.heap.size)(hl:∀ b,β n=some b->b<w.heap.size):RowAt w' S' β n s els:=by have he:=l.evo hb;have hs:=l.subs hb;rcases h with h|⟨b,vs,T,h1,h2,h3,h4,h5⟩;{exact .inl h};{exact .inr ⟨b,vs,T,h1,(l.same b (hl b h1) id).trans h2,h3,h4,λi j hi hj=>⟨(h5 i j hi hj).1.evo he.same hs,(h5 i j hi hj).2⟩⟩}
theorem RowIn.go {ob:Option Nat}{v:Value}{s:Nat}{els:List (List D)}(h:RowIn w S ob v s els)(l:Leads w S u7 w' S')(hb:∀ b i,S b i->b<w.heap.size)(hl:∀ b,ob=some b->b<w.heap.size):RowIn w' S' ob v s els:=by have he:=l.evo hb;have hs:=l.subs hb;rcases h with h|⟨b,cap,us,T,h1,h2,h3,h4,h5,h6,h7⟩;{exact .inl h};{exact .inr ⟨b,cap,us,T,h1,h2,h3,(l.same b (hl b h1) id).trans h4,h5,h6,λi j hi hj=>⟨(h7 i j hi hj).1.evo he.same hs,(h7 i j hi hj).2⟩⟩}
theorem ObjAt.go {n:Nat}{o:Obj'}(h:ObjAt w S β n o)(l:Leads w S u7 w' S')(hb:∀ b i,S b i->b<w.heap.size)(hl:∀ b,Own β n o b->b<w.heap.size):ObjAt w' S' β n o:=by
 have he:=l.evo hb;have hs:=l.subs hb;have hl0:∀ b,β n=some b->b<w.heap.size:=λb h=>hl b (.inl h);cases o with
 |box cs =>
  obtain⟨b,vs,T,h1,h2,h3,h4⟩:=h;exact⟨b,vs,T,h1,(l.same b (hl0 b h1) id).trans h2,h3,λj hj=>(h4 j hj).evo he hs⟩
 |arr s els=>exact RowAt.go h l hb hl0| log s els=>exact RowAt.go h l hb hl0| lent s els=>exact⟨RowAt.go h.1 l hb hl0,λb hβ i hi=>hs _ _ (h.2 b hβ i hi)⟩| mat s rows hs' =>
  obtain⟨hp,h5,h6⟩:=h;refine⟨?_,h5,h6⟩;rcases hp with hp|⟨b,vs,T,h1,h2,h3,h4,h7⟩;{grind};{exact .inr ⟨b,vs,T,h1,(l.same b (hl0 b h1) id).trans h2,h3,λv k hk=>⟨(h4 v k hk).1,(h4 v k hk).2.evo he hs⟩,λi hi=>(h7 i hi).go l hb λb hb'=>hl b (.inr ⟨i,hi,hb'⟩)⟩}
 |mp t ks=>exact MapAt.to h rfl λb h=>l.same b (hl0 b h) id
theorem ObjsAt.go (h:ObjsAt w S β objs)(l:Leads w S u7 w' S')(hb:∀ b i,S b i->b<w.heap.size):ObjsAt w' S' β objs where
 nd:=h.nd
 at_ n o hm:=(h.at_ n o hm).go l hb λb hβ=>(h.un n o b hm hβ).2
 un n o b hm hβ:=by obtain⟨h1,h2⟩:=h.un n o b hm hβ;exact⟨λi hS=>h1 i (l.old b i h2 id hS),uR h2 l.size⟩
 inj:=h.inj
theorem Sim.go (h:Sim w0 S0 K0 N τ objs a w S β)(l:Leads w S u7 w' S'):Sim w0 S0 K0 N τ objs a w' S' β where
 dfr:=h.dfr
 sz:=h.sz
 ld:=h.ld.trans l
 tmp t:=(h.tmp t).evo (l.evo h.ld.bnd) (l.subs h.ld.bnd)
 obj:=h.obj.go l h.ld.bnd
 own:=h.own
 keep:=h.keep
theorem YI (hb:∀ b i,S b i->b<w.heap.size)(o:Obj):Leads w S u7 (w.alloc o) (λb i=>S b i\/b=w.heap.size) where
 size:=by simp
 os:=rfl
 tape:=rfl
 output:=rfl
 same b h _:=heap_alloc_old w o h
 shape b vs T h:=by
  (have hlt:b<w.heap.size:=by grind);exact⟨vs,by grind [heap_alloc_old],rfl⟩
 bnd b i h:=by grind [World.size_alloc]
 sub b i h h':=.inl h'
 old b i h _ h':=h'.resolve_right oM
theorem qG (hb:∀ b i,S b i->b<w.heap.size)(o:Obj):Leads w S u7 (w.alloc o) S where
 size:=by simp
 os:=rfl
 tape:=rfl
 output:=rfl
 same b h _:=heap_alloc_old w o h
 shape b vs T h:=by
  (have hlt:b<w.heap.size:=by grind);exact⟨vs,by grind [heap_alloc_old],rfl⟩
 bnd b i h:=by grind [World.size_alloc]
 sub b i h h':=h'
 old b i h _ h':=h'
theorem Leads.refl (hb:∀ b i,S b i->b<w.heap.size):Leads w S u7 w S:=⟨yD _,rfl,rfl,rfl,λ_ _ _=>rfl,λb vs T h=>⟨vs,h,rfl⟩,hb,λ_ _ _ h=>h,λ_ _ _ _ h=>h⟩
theorem sX (hb:∀ b i,S b i->b<w.heap.size):Leads w S u7 w.drew S:=⟨yD _,rfl,rfl,rfl,λ_ _ _=>rfl,λb vs T h=>⟨vs,h,rfl⟩,hb,λ_ _ _ h=>h,λ_ _ _ _ h=>h⟩
theorem eF (n:Nat):∀ (z:List (List PV)),(∀ e,e∈z->e.length=n)->∀ i j,i<z.length->j<n->(kZ z).getD (i*n+j) .any=(z.getD i []).getD j .any
 |[],_,i,j,hi,_=>by grind| x::z,h,0,j,_,hj=>by have hx:=h x (by simp);simp only[kZ,ZI,jQ,List.getD_cons_zero];grind| x::z,h,i+1,j,hi,hj=>by
  (have hx:=h x (by simp);simp only[kZ,PA];have e:(i+1)*n+j=x.length+(i*n+j):=by grind);rw[e,fK,ZH oM,<-fK]
  rw[show x.length+(i*n+j)-x.length=i*n+j by omega];exact eF n z (λe he=>h e (by simp[he])) i j (by grind) hj
theorem tM:∀ (z:List (List PV)),(zL z).length=z.length
 |[]=>rfl| x::z=>by simp[zL,tM z]
theorem i9:∀ (z:List (List PV)) (i:Nat),i<z.length->(zL z).getD i []=xE (z.getD i [])
 |[],i,h=>by simp at h| x::z,0,_=>by simp[zL]| x::z,i+1,h=>by simpa[zL] using i9 z i (by grind)
theorem ZY:∀ (z:List (List PV)) (n:Nat),(∀ e,e∈z->e.length=n)->∀ e,e∈zL z->e.length=n
 |[],n,_,e,h=>by grind [zL]| x::z,n,hn,e,h=>by simp only[zL,yI] at h;rcases h with rfl|h;{grind [g9]};{exact ZY z n (λe he=>hn e (by simp[he])) e h}
theorem wV {f:PV->Bool}:∀ {cs:List PV},yS f cs=true->∀ j,j<cs.length->f (cs.getD j .any)=true
 |[],_,j,h=>by simp at h| c::cs,h,0,_=>by simp only[yS,yK] at h;grind| c::cs,h,j+1,hj=>by simp only[yS,yK] at h;simpa using wV h.2 j (by grind)
theorem eH:∀ (z:List (List PV)),nS z=true->∀ i j,i<z.length->j<(z.getD i []).length->Zu ((z.getD i []).getD j .any)=true
 |[],_,i,j,hi,_=>by grind| x::z,h,0,j,_,hj=>by simp only[nS,yK] at h;grind [wV]| x::z,h,i+1,j,hi,hj=>by simp only[nS,yK] at h;simp only[PA] at hj ⊢;exact eH z h.2 i j (by grind) hj
theorem C8 {b n:Nat}{vs:Array Value}{T:TypeId}{els:List (List PV)}(hb:w.heap[b]?=some (.cells vs T (0,0)))(hS:∀ i,S b i)(hr:RepL w S β vs (kZ els))(hn:∀ e,e∈els->e.length=n)(hok:nS els=true)(cap:Nat)(hcap:els.length<=cap):RepD w S (.slice (some ⟨b,0,none⟩) els.length cap) (.sl (zL els)):=by
 by_cases he:els=[];{subst he;exact .sl0 _ _}
 ·have hne:zL els≠[]:=by cases els with
   |nil=>grind| cons x z=>simp[zL]
  have hlen:els.length=(zL els).length:=(tM els).symm;rw[hlen];have key:∀ i j,i<els.length->j<n->Rep w S β (vs.getD (i*n+j) undef) ((els.getD i []).getD j .any)/\i*n+j<vs.size/\Zu ((els.getD i []).getD j .any)=true:=by
   intro i j hi hj;have h1:i*n+j<(kZ els).length:=by
    rw[jW n els hn]
    calc i*n+j<i*n+n:=by omega
     _=(i+1)*n:=by grind
     _<=els.length*n:=jC _ hi
   have h2:=hr.2 (i*n+j) h1;rw[eF n els hn i j hi hj] at h2;refine⟨h2,by rw[hr.1];exact h1,eH els hok i j hi ?_⟩;grind
  refine .sl (s:=n) (λi j=>vs.getD (i*n+j) undef) hne oM (λi j _ _=>hS _) (ZY els n hn) (λi j hi hj=>?_) (λi j hi hj=>?_) (λi j hi hj=>?_);{rw[<-hlen] at hi;have:=(key i j hi hj).2.1;simp only[World.cell?,hb,jQ];simp_all};{grind [sN,WW]};{rw[<-hlen] at hi;rw[i9 els i hi,fC];grind [m0,lV]}
theorem RepL.go {vs:Array Value}{cs:List PV}(h:RepL w S β vs cs)(l:Leads w S u7 w' S')(hb:∀ b i,S b i->b<w.heap.size):RepL w' S' β vs cs :=
 ⟨h.1,λj hj=>(h.2 j hj).evo (l.evo hb) (l.subs hb)⟩
theorem gK {t n by':Nat}{z:List PV}(ht:ty t=.sli n by' z)(hb:∀ b i,S b i->b<w.heap.size){ρ:Operand->Value}{e:Operand->PV}(he:∀ x,Rep w S β (ρ x) (e x)){len:Nat}{parts:Array (Nat×Operand)}{els:List (List PV)} (hf:rM n (v7 e parts.toList) (pP z len)=some els) (hle:len*n<=1000):∃ cells' el,(Instr.buildSlice t len (parts.map λ(i,x)=>(i,ρ x))).run Pg w=.ok (.slice (some ⟨w.heap.size,0,none⟩) len len) (w.alloc (.cells cells' el))/\RepL w S β cells' (kZ els)/\(∀ e,e∈els->e.length=n)/\els.length=len:=by
 obtain⟨i,el,j,zv,h1,h2,h3,h4,h5,h6,h7,h8,h9,h10,h11,h12⟩:=qU ht;subst h11;have hzl:(zv.cells.toList.map wP).length=n:=by simp[h9]
 have hp:=tH (w:=w) (S:=S) (β:=β) he parts.toList;have h9':((parts.map λ(i,x)=>(i,ρ x)).toList)=parts.toList.map λ(p:Nat×Operand)=>(p.1,ρ p.2):=by simp
 have hz0:RepL w S β ((Array.range (len*n)).map (zv.cells[· % zv.cells.size]!)) (kZ (pP (zv.cells.toList.map wP) len)):=by
  (have hfl:(kZ (pP (zv.cells.toList.map wP) len)).length=len*n:=by grind [jW,XQ,m9]);refine⟨by grind,λj hj=>?_⟩
  (rw[hfl] at hj;rw[mE _ n hzl h10 len j hj];have hm:j%n<n:=vZ _ h10;have e1:(((Array.range (len*n)).map (zv.cells[· % zv.cells.size]!)).getD j undef)=zv.cells.getD (j%n) undef:=by simp_all);rw[e1]
  exact (jI zv.cells).2 (j%n) oM
 obtain⟨cells',g1,g2,g3,g4⟩:=JH hp (λe he=>by grind [XQ]) hz0 hf;rw[m9] at g4;have hbig:¬(len*n > 2^24):=by omega
 have hrun:(Instr.buildSlice t len (parts.map λ(i,x)=>(i,ρ x))).run Pg w=.ok (.slice (some ⟨w.heap.size,0,none⟩) len len) (w.alloc (.cells cells' el)):=by
  (have h9'':(Array.map (λ(x:Nat×Operand)=>(x.fst,ρ x.snd)) parts).toList=parts.toList.map λ(p:Nat×Operand)=>(p.1,ρ p.2):=by simp);by_cases hz:len*n=0
  ·(have g1':Instr.fill (λi=>some (i*n,n)) ((Array.range (len*n)).map λx=>(#[]:Array Value)[x%(#[]:Array Value).size]!) (parts.toList.map λ(p:Nat×Operand)=>(p.1,ρ p.2))=some cells':=by grind);unfold Instr.buildSlice
   simp only[Sem.run_bind,run_underlying h4,Result.andThen_ok,uE h5,h7,hbig,if_false,hz,if_true,Sem.run_pure,gt_iff_lt,Nat.not_lt_zero];simp only[hz] at g1';simp only[h9'',g1',newRow,Sem.run_bind,run_newObj,Sem.run_pure,Result.andThen_ok];rfl
  {unfold Instr.buildSlice;simp only[Sem.run_bind,run_underlying h4,Result.andThen_ok,uE h5,h7,hbig,if_false,hz,pJ h5 h6,Sem.run_pure];simp only[h9'',g1,newRow,Sem.run_bind,run_newObj,Sem.run_pure,Result.andThen_ok];rfl}
 grind
theorem XL {t n by':Nat}{z:List PV}(ht:ty t=.sli n by' z)(hb:∀ b i,S b i->b<w.heap.size){ρ:Operand->Value}{e:Operand->PV}(he:∀ x,Rep w S β (ρ x) (e x)){len:Nat}{parts:Array (Nat×Operand)}{els:List (List PV)} (hf:rM n (v7 e parts.toList) (pP z len)=some els) (hle:len*n<=1000) (hok:nS els=true):∃ w' S' val,(Instr.buildSlice t len (parts.map λ(i,x)=>(i,ρ x))).run Pg w=.ok val w'/\Leads w S u7 w' S'/\Rep w' S' β val (S7 els):=by
 obtain⟨cells',el,hrun,g2,g3,g4⟩:=gK ht hb he hf hle;have hl:=YI (w:=w) hb (.cells cells' el);refine⟨_,_,_,hrun,hl,?_⟩;cases hel:els with
 |nil =>
  (have:len=0:=by grind);subst this
  exact .emp _
 |cons x r =>
  refine .c rfl ?_;have:=C8 (w:=w.alloc (.cells cells' el)) (S:=λb i=>S b i\/b=w.heap.size) (β:=β) (els:=els) (heap_alloc_new w _) (λ_=>.inr rfl) (g2.go hl hb) g3 hok len oM;rw[g4,hel] at this;exact this
end
section
variable {w:World} {S:Nat->Nat->Prop} {β:Bm}
theorem dU {ρ:Operand->Value}{e:Operand->PV}(he:∀ x,Rep w S β (ρ x) (e x)){d l:Unit->Int}{o:Option Operand}(h:i8 e d o=some l):(o=none/\l=d)\/∃ x k,o=some x/\ρ x=.int k (l ()):=by unfold i8 at h;split at h;{grind};{rename_i x;split at h;{rename_i k n hx;cases h;refine .inr ⟨x,k,rfl,?_⟩;have:=he x;rw[hx] at this;exact vS this};grind}
theorem rW {t el:Nat}{j:TypeInfo}(hu:Pg.underlying t=some (.slice el))(hj:Pg.info? el=some j){ρ:Operand->Value}{a:Option Addr}{len cap:Nat}(hlc:len<=cap){lo hi:Option Operand}{l h:Int} (h0:0<=l) (h1:l<=h) (h2:h<=(len:Int)) (hl:(lo=none/\l=0)\/∃ x k,lo=some x/\ρ x=.int k l) (hh:(hi=none/\h=len)\/∃ x k,hi=some x/\ρ x=.int k h):(Instr.sliceAt t (.slice a len cap) (lo.map ρ) (hi.map ρ) ((none:Option Operand).map ρ)).run Pg w=.ok (.slice (if cap=l.toNat then a else a.map (·.add (l.toNat*j.size))) (h.toNat-l.toNat) (cap-l.toNat)) w:=by
 have he:(h.toNat:Int)=h:=Int.toNat_of_nonneg oM;have hc:h<=(cap:Int):=by omega
 have h0':0<=h:=by omega
 have e1:Pg.elem t=el:=by simp[Program.elem,hu]
 simp only[Option.map_none,YN hu];rcases hl with⟨rfl,rfl⟩|⟨x,k,rfl,hx⟩ <;> rcases hh with⟨rfl,rfl⟩|⟨y,k',rfl,hy⟩
 {simp[Instr.slice,run_underlying hu,Instr.sliceBounds,uE hj]};{simp[Instr.slice,run_underlying hu,Instr.sliceBounds,run_sliceBound,uE hj,hy,h0',hc]};{simp[Instr.slice,run_underlying hu,Instr.sliceBounds,run_sliceBound,uE hj,hx,h0,h1]};{simp[Instr.slice,run_underlying hu,Instr.sliceBounds,run_sliceBound,uE hj,hx,hy,h0,h0',hc,he,h1]}
theorem Hy {els:List (List D)}{v:Value}(hr:RepD w S v (.sl els)){n:Nat}(hw:∀ e,e∈els->e.length=n){l h:Nat}(h1:l<=h)(h2:h<=els.length):∃ a cap,v=.slice a els.length cap/\els.length<=cap/\RepD w S (.slice (if cap=l then a else a.map (·.add (l*n))) (h-l) (cap-l)) (.sl ((els.take h).drop l)):=by
 rcases fS hr with⟨rfl,a,cap,rfl⟩|⟨b,o,cap,s,vals,hne,hcap,hS,hs,hc,hrr,hone,rfl⟩
 ·(have e1:h=0:=by grind);have e2:l=0:=by omega
  subst e1 e2;exact⟨a,cap,rfl,yU _,by simpa using RepD.sl0 _ _⟩
 ·refine⟨_,cap,rfl,hcap,?_⟩;by_cases hlt:l<h
  ·have hsn:s=n:=by
    cases els with
    |nil=>grind| cons x r=>simp_all
   (subst hsn;have hcl:¬cap=l:=by omega);simp only[hcl,if_false,Option.map_some,gJ]
   (have hlen:((els.take h).drop l).length=h-l:=by grind);have key:=RepD.sl (w:=w) (S:=S) (b:=b) (o:=o+l*s) (cap:=cap-l) (s:=s) (els:=(els.take h).drop l) (λi j=>vals (l+i) j)
    (by grind) oM (λi j hi hj=>by rw[hlen] at hi;have:=hS (l+i) j oM hj;grind)
    (λe he=>hs e (s7 (List.mem_of_mem_drop he)))
    (λi j hi hj=>by grind)
    (λi j hi hj=>by grind)
    (λi j hi hj=>by grind)
   grind
  ·(have e:l=h:=by omega);subst e
   (have:(els.take l).drop l=[]:=by simp);rw[this,Vr]
   exact .sl0 _ _
theorem Pf {els:List (List D)}{v:Value}(hr:RepD w S v (.sl els)){k:Nat}{n:Nat}{c:List PV}(hn:0<n)(hf:yS qZ c=true)(hcl:c.length=n)(hk:els[k]?=some (xE c)):∃ b o cap,v=.slice (some ⟨b,o,none⟩) els.length cap/\k<els.length/\Rep w S β (.pointer (some ⟨b,o+k*n,none⟩)) (.dptr c 0):=by
 have hlt:k<els.length:=by grind
 rcases fS hr with⟨rfl,a,cap,rfl⟩|⟨b,o,cap,s,vals,hne,hcap,hS,hs,hc,hrr,hone,rfl⟩;{grind}
 ·(have hg:els.getD k []=xE c:=by grind);have hsn:s=n:=by grind [g9]
  subst hsn;refine⟨b,o,cap,rfl,hlt,.dptr (o:=o+k*s) (off:=0) (λj=>vals k j) (λj hj=>hS k j hlt oM) hf (λj hj=>?_) (λj hj=>?_)⟩
  all_goals grind [fC]
end
section
variable {w0:World} {S0:Nat->Nat->Prop} {K0:Nat->Prop} {N:Cx} {τ:Nat->PV} {objs:List (Nat×Obj')} {a:Act} {w:World} {S:Nat->Nat->Prop} {β:Bm}
theorem QA (h:Sim w0 S0 K0 N τ objs a w S β){n:Nat}{cs:List PV}(ho:yO objs n=some (.box cs)):∃ (b:Nat) (vs:Array Value) (T:TypeId),β n=some b/\w.heap[b]?=some (.cells vs T (0,0))/\vs.size=cs.length/\∀ j,j<cs.length->Rep w S β (vs.getD j undef) (cs.getD j .any) :=
 h.obj.at_ n _ (xL ho)
theorem cR {b:Nat}{vs:Array Value}{T:TypeId}{fz:Nat×Nat}(hb:w.heap[b]?=some (.cells vs T fz))(j:Nat)(hj:j<vs.size):w.cell? ⟨b,j,none⟩=some (vs.getD j undef):=by simp only[World.cell?,hb];simp[hj]
theorem Tm {t:Nat}(h:(ty t).isNo=false):∃ d,Pg.underlying t=some d:=by grind [U8]
theorem Y6 {ρ:Operand->Value}{e:Operand->PV}(he:∀ x,Rep w S β (ρ x) (e x)):∀ (l:List Operand),RepL w S β (l.map ρ).toArray (evs e l)
 |[]=>⟨rfl,λj hj=>by grind [evs]⟩| o::r=>by
  obtain⟨h1,h2⟩:=Y6 he r;refine⟨by grind [evs],λj hj=>?_⟩;cases j with
  |zero=>simpa[evs] using he o| succ j=>simpa[evs] using h2 j (by grind [evs])
theorem RepL.append {vs us:Array Value}{cs ds:List PV}(h:RepL w S β vs cs)(k:RepL w S β us ds):RepL w S β (vs++us) (cs++ds):=by
 refine⟨by simp[h.1,k.1],λj hj=>?_⟩;by_cases hlt:j<cs.length
 ·(have:=h.2 j hlt;rw[fK,Hf hlt,<-fK];have hv:j<vs.size:=by rw[h.1];exact hlt);simpa[Array.getElem?_append_left hv] using this
 ·(have h2:=k.2 (j-cs.length) (by grind);rw[fK,ZH oM,<-fK];have hv:vs.size<=j:=by rw[h.1];omega);rw[<-h.1] at h2 ⊢
  simpa[Array.getElem?_append_right hv] using h2
theorem RepL.le {vs:Array Value}{cs ds:List PV}(h:RepL w S β vs cs)(k:LeL cs ds):RepL w S β vs ds :=
 ⟨h.1.trans (uS k),λj hj=>(h.2 j (by grind [uS])).le _ (tB k j hj)⟩
theorem BF:ObjsAt w S β ([]++[]):=⟨by grind,λn o h=>by simp at h,λn o b h=>by simp at h,λn o m o' b h=>by simp at h⟩
theorem mZ {o:Oper}{c:Call}{f:Operand}(hop:o.op=.call c)(hc:c.callee=.value f){ρ:Operand->Value}{g:FuncId}{vs:Array Value}(hf:ρ f=.func (.func g) #[] vs)(isf:∀ (vals:Array Value) (w:World),(callFunc g vals).run Pg w=.ok (.enter g vals) w):(execOp ρ o).run Pg w=.ok (.enter g ((c.args.toList.map ρ).toArray++vs)) w:=by have:c.args.map ρ=(c.args.toList.map ρ).toArray:=Array.ext' (by simp);simp only[execOp,hop,resolve,hc,hf,Deferred.ofValue,Sem.run_bind,Sem.run_pure,Result.andThen_ok,invoke,isf,this];simp
theorem nT {o:Oper}{c:Call}{f:Operand}(hop:o.op=.call c)(hcl:c.callee=.value f){K:PV->Prop}{Km:Act->World->Prop}{Q:Exit->Act->World->Prop}(h:Sim w0 S0 K0 N τ objs a w S β){g:FuncId}{caps:List PV}(hf:ev τ f=.fn g caps) (hs:∃ args' r,LeL (evs (ev τ) c.args.toList++caps) args'/\zD g args' r/\nmIn [] r=true/\K r) (hk:∀ pv w' S' v,K pv->Leads w S u7 w' S'->Rep w' S' β v pv->Km (a.put o.dst v) w'):o.wp Pg a w Km Q:=by obtain⟨args',r,hle,hso,hnm,hK⟩:=hs;have hfr:=h.eval f;rw[hf] at hfr;obtain⟨vs,hv,hl,hr⟩:=gP hfr;have hargs:=((Y6 (λx=>h.eval x) c.args.toList).append ⟨hl,hr⟩).le hle;unfold Oper.wp;rw[mZ hop hcl hv hso.isf,Oper.upon_enter];refine (hso.go w S β _ h.ld.bnd BF hargs.1 hargs.2).mono ?_;rintro e w' ⟨v,S',β',rfl,hld,hrep,_⟩;have hld':Leads w S u7 w' S':=⟨hld.size,hld.os,hld.tape,hld.output,λb hb _=>hld.same b hb (by rintro⟨n,o,hm,_⟩;grind),hld.shape,hld.bnd,hld.sub,λb i hb _=>hld.old b i hb (by rintro⟨n,o,hm,_⟩;grind)⟩;exact hk r w' S' v hK hld' (hrep.nmIn (by simp) hnm)
end
end Go.Proofs.YtaeaffgjdcigoaaGreat
