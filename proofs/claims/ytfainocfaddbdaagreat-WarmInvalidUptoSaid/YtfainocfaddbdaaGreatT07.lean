/- A part of the proof: PmJ. -/
import Derived.Test.YtfainocfaddbdaaGreatT06
set_option linter.all false
namespace Go.Proofs.YtfainocfaddbdaaGreat
open Go
section
variable {w0:World} {S0:Nat->Nat->Prop} {K0:Nat->Prop} {N:Cx} {τ:Nat->PV} {objs:List (Nat×Obj')} {a:Act} {w:World} {S S':Nat->Nat->Prop} {β:Bm}
theorem Evo.refl:Evo S w w:=⟨fun _ _ _=>rfl,fun b vs T h=>⟨vs,h,rfl⟩⟩
theorem Rep.mono {v pv}(h:Rep w S β v pv)(hS:∀ b i,S b i->S' b i):Rep w S' β v pv:=h.evo Evo.refl hS
theorem uE (f:PV->PV)(hf:f .any=.any):∀ (l:List (Nat×PV)) (t:Nat),zB (xY f l) t=f (zB l t)
 |[],t=>by simp[xY,zB,hf]| (u,v)::r,t=>by
  simp only[xY,zB];cases nqb u t with
  |true=>rfl| false=>exact uE f hf r t
theorem zH (f:PV->PV):∀ (l:List PV),(x6 f l).length=l.length
 |[]=>rfl| v::r=>by simp[x6,zH f r]
theorem z8 (f:PV->PV)(hf:f .any=.any):∀ (l:List PV) (j:Nat),(x6 f l).getD j .any=f (l.getD j .any)
 |[],j=>by simp[x6,hf]| v::r,0=>by simp[x6]| v::r,j+1=>by simpa[x6] using z8 f hf r j
theorem kO {f:PV->Prop}(hf:f .any):∀ {cs:List PV},oE f cs->∀ j,f (cs.getD j .any)
 |[],_,j=>by simpa using hf| c::cs,h,0=>by simpa using h.1| c::cs,h,j+1=>by simpa using kO hf h.2 j
def szO:Obj'->Nat
 |.box cs=>cs.length| .arr s els=>(els ()).length*s| .log s els=>(els ()).length*s| .lent s els=>(els ()).length*s| .mat _ _ _=>0
theorem rW {n s:Nat}{els:Unit->List (List D)}{o:Obj'}(hr:eW o=some (s,els))(h:ObjAt w S β n o):RowAt w S β n s els:=by
 cases o with
 |box cs=>cases hr
 |arr s' e=>cases hr;exact h
 |log s' e=>cases hr;exact h
 |lent s' e=>cases hr;exact h.1
 |mat s' r q=>cases hr
theorem zET {s:Nat}{els:Unit->List (List D)}{o:Obj'}(hr:eW o=some (s,els)):szO o=(els ()).length*s:=by
 cases o with
 |box cs=>cases hr
 |arr s' e=>cases hr;rfl
 |log s' e=>cases hr;rfl
 |lent s' e=>cases hr;rfl
 |mat s' r q=>cases hr
structure FrzAt (w:World) (S S':Nat->Nat->Prop) (β:Bm) (n:Nat) (o:Obj'):Prop where
 sub:∀ b i,S b i->S' b i
 new:∀ b,β n=some b->∀ i,i<szO o->S' b i
 at_:ObjAt w S β n o
 cl:nN o=true
theorem frz0 {n:Nat}{o:Obj'}(F:FrzAt w S S' β n o){v pv}(h:Rep w S β v pv)(hf:fo0 n o pv):Rep w S' β v (fz0 n o pv):=by
 have hm:=h.mono F.sub;cases pv with
 |agg cs=>exact xL _| tup cs=>exact xL _| fn f cs=>exact xL _| ptr m off =>
  simp only[fz0];cases hb:nqb m n with
  |false=>exact hm| true =>
   have:=yC hb;subst this;simp only[cond_true];cases o with
   |arr s els=>exact xL _| log s els=>exact xL _| lent s els=>exact xL _| mat s r q=>exact xL _| box cs =>
    obtain⟨b,hβ,rfl⟩:=uF h;obtain⟨b',vs,T,hβ',hw,hsz,hr⟩:=F.at_;rw[hβ] at hβ';cases hβ';have hcl:=F.cl;simp only[nN] at hcl;have hfl:yN kQ (x6 eB cs)=true:=by
     have:∀ (l:List PV),yN sJ l=true->yN kQ (x6 eB l)=true:=by
      intro l;induction l with
      |nil=>intro _;rfl
      |cons c l ih =>
       intro h;simp only[yN,Bool.and_eq_true,x6] at h ⊢;exact⟨by cases c <;> simp_all [sJ,eB,kQ],ih h.2⟩
     exact this cs hcl
    show Rep w S' β _ (.dptr (x6 eB cs) off)
    suffices key:Rep w S' β (.pointer (some ⟨b,0+off,none⟩)) (.dptr (x6 eB cs) off) by rw[Nat.zero_add] at key;exact key
    refine Rep.dptr (o:=0) (fun j=>vs.getD j undef) (fun j hj=>F.new b hβ _ (by rw[zH] at hj;simpa[szO] using hj)) hfl (fun j hj=>?_) (fun j hj=>?_);{rw[zH] at hj;rw[Nat.zero_add];exact vM hw j (by omega)}
    ·(rw[zH] at hj;rw[z8 _ rfl];have h1:=bF ((hr j hj).mono F.sub) (y6 rfl hcl j);have h2:∀ x:PV,toD (eB x)=toD x:=by intro x;cases x <;> rfl);rw[h2]
     exact h1
 |aptr m s i off =>
  simp only[fz0];cases hb:nqb m n with
  |false=>exact hm| true=>exact xL _
 |osl m s i len =>
  simp only[fz0];cases hb:nqb m n with
  |false=>exact hm| true =>
   have:=yC hb;subst this;simp only[cond_true];cases hro:eW o with
   |none=>exact xL _| some p =>
    obtain⟨s',els⟩:=p;simp only[fo0,hb,hro] at hf;have hf:=hf.h;show Rep w S' β v ((match nqb s s' with|true=>PV.sl (fun _=>((els ()).drop (i ())).take (len ()))|false=>.any));cases hss:nqb s s' with
    |false=>exact xL _| true =>
     have:=yC hss;subst this;simp only[cond_true];refine .c rfl ?_;simp only[toD];rcases w8 h with⟨hn,ho,hl,aa,rfl⟩|⟨b,cap,vs,T,hβ,hlc,hw,hsz,rfl⟩;{rw[hl];simpa using RepD.sl0 _ _}
     ·rcases rW hro F.at_ with⟨hn,_⟩|⟨b',vs',T',hβ',hw',hsz',hwid,hr⟩;{rw[hβ] at hn;cases hn}
      ·(rw[hβ] at hβ';cases hβ';rw[hw] at hw';cases hw';have hlen:(((els ()).drop (i ())).take (len ())).length=len ():=by simp;omega);by_cases h0:len ()=0
       {rw[h0];simpa using RepD.sl0 _ _}
       ·(have hg:∀ k,k<len ()->(((els ()).drop (i ())).take (len ())).getD k []=(els ()).getD (i ()+k) []:=by intro k hk;simp only[List.getD_eq_getElem?_getD];rw[List.getElem?_take_of_lt hk,List.getElem?_drop]);have key:=RepD.sl (w:=w) (S:=S') (b:=b) (o:=i ()*s) (cap:=cap) (s:=s) (els:=((els ()).drop (i ())).take (len ())) (fun k j=>vs.getD ((i ()+k)*s+j) undef)
         (by intro e;rw[e] at hlen;simp at hlen;omega) (by rw[hlen];exact hlc)
         (fun k j hk hj=>F.new b hβ _ (by
          rw[hlen] at hk;rw[zET hro];have:(i ()+k)*s+s<=(els ()).length*s:=by
           calc (i ()+k)*s+s=(i ()+k+1)*s:=by rw[Nat.add_mul (i ()+k)];omega
            _<=_:=Nat.mul_le_mul_right _ (by omega)
          rw[Nat.add_mul] at this;omega))
         (fun e he=>hwid e (List.mem_of_mem_drop (List.mem_of_mem_take he)))
         (fun k j hk hj=>by
          rw[hlen] at hk;have hlt:(i ()+k)*s+j<vs.size:=by
           have:(i ()+k)*s+s<=(els ()).length*s:=by
            calc (i ()+k)*s+s=(i ()+k+1)*s:=by rw[Nat.add_mul (i ()+k)];omega
             _<=_:=Nat.mul_le_mul_right _ (by omega)
           omega
          rw[<-vM hw _ hlt,Nat.add_mul])
         (fun k j hk hj=>by rw[hlen] at hk;exact (hr (i ()+k) j (by omega) hj).2)
         (fun k j hk hj=>by rw[hlen] at hk;rw[hg k hk];exact ((hr (i ()+k) j (by omega) hj).1).evo (fun _ _ _=>rfl) F.sub)
        rw[hlen] at key;exact key
 |int k x=>exact hm| tt=>exact hm| ff=>exact hm| bool b=>exact hm| nbool b=>exact hm| str x=>exact hm| nil=>exact hm| sl e=>exact hm| dptr cs o=>exact hm| nilf=>exact hm| nilp=>exact hm| emp=>exact hm| any=>exact hm
theorem frz1 {n:Nat}{o:Obj'}(F:FrzAt w S S' β n o){v pv}(h:Rep w S β v pv)(hf:fo1 n o pv):Rep w S' β v (fz1 n o pv):=by
 cases pv with
 |agg cs =>
  obtain⟨vs,rfl,h1,h2⟩:=vL h;exact .agg (by rw[zH];exact h1) fun j hj=>by rw[zH] at hj;rw[z8 _ rfl];exact frz0 F (h2 j hj) (kO trivial hf j)
 |tup cs =>
  obtain⟨vs,rfl,h1,h2⟩:=kS h;exact .tup (by rw[zH];exact h1) fun j hj=>by rw[zH] at hj;rw[z8 _ rfl];exact frz0 F (h2 j hj) (kO trivial hf j)
 |fn f cs =>
  obtain⟨vs,rfl,h1,h2⟩:=kT h;exact .fn (by rw[zH];exact h1) fun j hj=>by rw[zH] at hj;rw[z8 _ rfl];exact frz0 F (h2 j hj) (kO trivial hf j)
 |_=>exact frz0 F h hf
theorem frz2 {n:Nat}{o:Obj'}(F:FrzAt w S S' β n o){v pv}(h:Rep w S β v pv)(hf:fo n o pv):Rep w S' β v (frz n o pv):=by
 cases pv with
 |agg cs =>
  obtain⟨vs,rfl,h1,h2⟩:=vL h;exact .agg (by rw[zH];exact h1) fun j hj=>by rw[zH] at hj;rw[z8 _ rfl];exact frz1 F (h2 j hj) (kO trivial hf j)
 |tup cs =>
  obtain⟨vs,rfl,h1,h2⟩:=kS h;exact .tup (by rw[zH];exact h1) fun j hj=>by rw[zH] at hj;rw[z8 _ rfl];exact frz1 F (h2 j hj) (kO trivial hf j)
 |fn f cs =>
  obtain⟨vs,rfl,h1,h2⟩:=kT h;exact .fn (by rw[zH];exact h1) fun j hj=>by rw[zH] at hj;rw[z8 _ rfl];exact frz1 F (h2 j hj) (kO trivial hf j)
 |_=>exact frz0 F h hf
theorem xO (f:PV->PV):∀ {l:List (Nat×Obj')} {n:Nat} {o:Obj'},(n,o)∈yS f l->∃ o',(n,o')∈l/\o=xD f o'
 |(m,o1)::r,n,o,h=>by
  (have e:yS f ((m,o1)::r)=(m,xD f o1)::yS f r:=by cases o1 <;> rfl);rw[e,List.mem_cons] at h
  rcases h with h|h;{cases h;exact⟨_,List.mem_cons_self,rfl⟩};{obtain⟨o',h1,h2⟩:=xO f h;exact⟨o',List.mem_cons_of_mem _ h1,h2⟩}
theorem kB (f:PV->PV):∀ (l:List (Nat×Obj')),(yS f l).map Prod.fst=l.map Prod.fst
 |[]=>rfl| (m,o1)::r=>by
  (have e:yS f ((m,o1)::r)=(m,xD f o1)::yS f r:=by cases o1 <;> rfl);rw[e,List.map_cons,List.map_cons,kB f r]
theorem pF (f:PV->PV):∀ {hs:List (PV×(Unit->Nat))} {v:PV} {k:Unit->Nat},(v,k)∈qH f hs->∃ v',(v',k)∈hs/\v=f v'
 |(u,j)::r,v,k,h=>by simp only[qH,List.mem_cons] at h;rcases h with h|h;{cases h;exact⟨_,List.mem_cons_self,rfl⟩};{obtain⟨v',h1,h2⟩:=pF f h;exact⟨v',List.mem_cons_of_mem _ h1,h2⟩}
theorem aJ (f:PV->PV):∀ {hs:List (PV×(Unit->Nat))} {v:PV} {k:Unit->Nat},(v,k)∈hs->(f v,k)∈qH f hs
 |(u,j)::r,v,k,h=>by simp only[qH,List.mem_cons] at h ⊢;rcases h with h|h;{cases h;exact .inl rfl};{exact .inr (aJ f h)}
theorem uO (f:PV->PV)(o:Obj')(i:Nat):x9 (xD f o) i↔x9 o i:=by
 cases o with
 |mat s rows hs =>
  show (_/\_)↔(_/\_);constructor;{exact fun h=>⟨h.1,fun v k hk=>h.2 (f v) k (aJ f hk)⟩};{exact fun h=>⟨h.1,fun v k hk=>by obtain⟨v',h1,_⟩:=pF f hk;exact h.2 v' k h1⟩}
 |_=>exact Iff.rfl
theorem wI {f:PV->PV}{n:Nat}{o:Obj'}{b:Nat}(h:Own β n (xD f o) b):Own β n o b:=by rcases h with h|⟨i,h1,h2⟩;{exact .inl h};{exact .inr ⟨i,(uO f o i).1 h1,h2⟩}
theorem zIL {f:PV->PV}{n:Nat}{o:Obj'}{b:Nat}(h:Own β n o b):Own β n (xD f o) b:=by rcases h with h|⟨i,h1,h2⟩;{exact .inl h};{exact .inr ⟨i,(uO f o i).2 h1,h2⟩}
theorem dP {f:PV->PV}{o:Obj'}{i:Nat}(h:uZ o i):uZ (xD f o) i:=by cases o <;> exact h
theorem xP:∀ {l:List (Nat×Obj')} {n m:Nat} {o:Obj'},(m,o)∈xC l n->(m,o)∈l/\m≠n
 |(u,x)::r,n,m,o,h=>by
  simp only[xC] at h;cases hu:nqb u n with
  |true =>
   simp only[hu,cond_true] at h;obtain⟨h1,h2⟩:=xP h;exact⟨List.mem_cons_of_mem _ h1,h2⟩
  |false =>
   simp only[hu,cond_false,List.mem_cons] at h;rcases h with h|h;{cases h;exact⟨List.mem_cons_self,fun e=>by subst e;simp at hu⟩};{obtain⟨h1,h2⟩:=xP h;exact⟨List.mem_cons_of_mem _ h1,h2⟩}
theorem bZ:∀ (l:List (Nat×Obj')) (n:Nat),((xC l n).map Prod.fst).Sublist (l.map Prod.fst)
 |[],n=>by simp[xC]| (u,x)::r,n=>by
  simp only[xC];cases nqb u n with
  |true=>exact (bZ r n).trans (List.sublist_cons_self _ _)| false=>exact (bZ r n).cons_cons _
theorem zC8 {n:Nat}{o:Obj'}:∀ {l:List (Nat×PV)},foT n o l->∀ t,fo n o (zB l t)
 |[],_,t=>trivial| (u,v)::r,h,t=>by
  simp only[zB];cases nqb u t with
  |true=>exact h.1| false=>exact zC8 h.2 t
theorem zC9 {n u:Nat}{o o1:Obj'}{r:List (Nat×Obj')}(h:foO n o ((u,o1)::r)):foO n o r:=by cases o1 <;> first|exact h|exact h.2
theorem zF6 {n:Nat}{o:Obj'}:∀ {l:List (Nat×Obj')},foO n o l->∀ {m cs},(m,Obj'.box cs)∈l->oE (fo n o) cs
 |(u,o1)::r,h,m,cs,hm=>by rcases List.mem_cons.1 hm with hm|hm;{cases hm;exact h.1};{exact zF6 (zC9 h) hm}
theorem zDA {n:Nat}{o:Obj'}:∀ {l:List (Nat×Obj')},foO n o l->∀ {m s rows hs},(m,Obj'.mat s rows hs)∈l->foH n o hs
 |(u,o1)::r,h,m,s,rows,hs,hm=>by rcases List.mem_cons.1 hm with hm|hm;{cases hm;exact h.1};{exact zDA (zC9 h) hm}
theorem zF7 {n:Nat}{o:Obj'}:∀ {hs:List (PV×(Unit->Nat))},foH n o hs->∀ {v k},(v,k)∈hs->fo n o v
 |(u,j)::r,h,v,k,hm=>by rcases List.mem_cons.1 hm with hm|hm;{cases hm;exact h.1};{exact zF7 h.2 hm}
theorem RowIn.mono {ob:Option Nat}{v:Value}{s:Nat}{els:List (List D)}(h:RowIn w S ob v s els)(hS:∀ b i,S b i->S' b i):RowIn w S' ob v s els:=by rcases h with h|⟨b,cap,us,T,h1,h2,h3,h4,h5,h6,h7⟩;{exact .inl h};{exact .inr ⟨b,cap,us,T,h1,h2,h3,h4,h5,h6,fun i j hi hj=>⟨(h7 i j hi hj).1.evo (fun _ _ _=>rfl) hS,(h7 i j hi hj).2⟩⟩}
theorem MatAt.map {n s:Nat}{rows:Unit->List (List (List D))}{hs:List (PV×(Unit->Nat))}{f:PV->PV}(h:MatAt w S β n s rows hs)(hS:∀ b i,S b i->S' b i)(hf:∀ v x k,(x,k)∈hs->Rep w S β v x->Rep w S' β v (f x)):MatAt w S' β n s rows (qH f hs):=by have hr:=uO f (.mat s rows hs);obtain⟨hp,h5,h6⟩:=h;refine⟨?_,fun i j b hi hj=>h5 i j b ((hr i).1 hi) ((hr j).1 hj),fun i b hi=>h6 i b ((hr i).1 hi)⟩;rcases hp with⟨e1,e2,e3⟩|⟨b,vs,T,h1,h2,h3,h4,h7⟩;{subst e3;exact .inl ⟨e1,e2,rfl⟩};{refine .inr ⟨b,vs,T,h1,h2,h3,fun v k hk=>?_,fun i hi=>(h7 i ((hr i).1 hi)).mono hS⟩;obtain⟨v',g1,rfl⟩:=pF f hk;exact⟨(h4 v' k g1).1,hf _ _ _ g1 (h4 v' k g1).2⟩}
theorem RowAt.mono {n s:Nat}{els:Unit->List (List D)}(h:RowAt w S β n s els)(hS:∀ b i,S b i->S' b i):RowAt w S' β n s els:=by rcases h with e|⟨b,vs,T,e1,e2,e3,e4,e5⟩;{exact .inl e};{exact .inr ⟨b,vs,T,e1,e2,e3,e4,fun i j hi hj=>⟨(e5 i j hi hj).1.evo (fun _ _ _=>rfl) hS,(e5 i j hi hj).2⟩⟩}
theorem ObjAt.mono {n:Nat}{o:Obj'}(h:ObjAt w S β n o)(hS:∀ b i,S b i->S' b i):ObjAt w S' β n o:=by
 cases o with
 |box cs=>obtain⟨b,vs,T,e1,e2,e3,e4⟩:=h;exact⟨b,vs,T,e1,e2,e3,fun j hj=>(e4 j hj).mono hS⟩
 |arr s els=>exact RowAt.mono h hS| log s els=>exact RowAt.mono h hS| lent s els=>exact⟨RowAt.mono h.1 hS,h.2.mono hS⟩| mat s rows hs =>
  obtain⟨hp,h5,h6⟩:=h;refine⟨?_,h5,h6⟩;rcases hp with hp|⟨b,vs,T,h1,h2,h3,h4,h7⟩;{exact .inl hp};{exact .inr ⟨b,vs,T,h1,h2,h3,fun v k hk=>⟨(h4 v k hk).1,(h4 v k hk).2.mono hS⟩,fun i hi=>(h7 i hi).mono hS⟩}
theorem Sim.frz {ps:PS}(h:Sim w0 S0 K0 N (zB ps.tmps) ps.objs a w S β){n:Nat}{o:Obj'}(ho:z7 ps.objs n=some o)(hc:nN o=true)(hT:foT n o ps.tmps)(hO:foO n o ps.objs):∃ S' β',Sim w0 S0 K0 N (zB (zER n o ps).tmps) (zER n o ps).objs a w S' β':=by
 have hmem:=yW ho;have F:FrzAt w S (fun b i=>S b i\/β n=some b) β n o:=⟨fun b i=>.inl,fun b h i _=>.inr h,h.obj.at_ n o hmem,hc⟩;refine⟨fun b i=>S b i\/β n=some b,β,⟨h.dfr,h.sz,?_,?_,?_,?_,?_⟩⟩;{refine⟨h.ld.size,h.ld.os,h.ld.tape,h.ld.output,h.ld.same,h.ld.shape,?_,?_,?_⟩;{rintro b i (hS|hβ);{exact h.ld.bnd b i hS};{exact (h.obj.un n o b hmem (.inl hβ)).2}};{exact fun b i hb hS=>.inl (h.ld.sub b i hb hS)};{rintro b i hb hk (hS|hβ);{exact h.ld.old b i hb hk hS};{rcases h.own n o b hmem (.inl hβ) with h'|h';{omega};{exact absurd h' hk}}}};{intro t;simp only[zER];rw[uE _ rfl];exact frz2 F (h.tmp t) (zC8 hT t)}
 ·refine⟨?_,?_,?_,?_⟩;{simp only[zER,kB];exact (bZ _ _).nodup h.obj.nd}
  ·intro m o' hm;obtain⟨o'',h1,h2⟩:=xO _ hm;obtain⟨h3,h4⟩:=xP h1;have hat:=h.obj.at_ m o'' h3;cases o'' with
   |box cs =>
    subst h2;obtain⟨b,vs,T,e1,e2,e3,e4⟩:=hat;exact⟨b,vs,T,e1,e2,by rw[zH];exact e3,fun j hj=>by rw[zH] at hj;rw[z8 _ rfl];exact frz2 F (e4 j hj) (kO trivial (zF6 hO h3) j)⟩
   |arr s els=>subst h2;exact RowAt.mono hat F.sub| log s els=>subst h2;exact RowAt.mono hat F.sub| lent s els=>subst h2;exact⟨RowAt.mono hat.1 F.sub,hat.2.mono F.sub⟩| mat s rows hs=>subst h2;exact MatAt.map hat F.sub fun v x k hk hv=>frz2 F hv (zF7 (zDA hO h3) hk)
  {intro m o' b hm hβ;obtain⟨o'',h1,rfl⟩:=xO _ hm;obtain⟨h3,h4⟩:=xP h1;obtain⟨h5,h6⟩:=h.obj.un m o'' b h3 (wI hβ);refine⟨?_,h6⟩;rintro i (hS|hn);{exact dP (h5 i hS)};{exact absurd (h.obj.inj _ _ _ _ b h3 hmem (wI hβ) (.inl hn)) h4}};{intro m o' m' o'' b hm hm' hβ hβ';obtain⟨x,h1,rfl⟩:=xO _ hm;obtain⟨y,h2,rfl⟩:=xO _ hm';exact h.obj.inj _ _ _ _ b (xP h1).1 (xP h2).1 (wI hβ) (wI hβ')}
 {intro m o' b hm hβ;obtain⟨x,h1,rfl⟩:=xO _ hm;exact h.own m x b (xP h1).1 (wI hβ)};{intro m o' hm hb;obtain⟨x,h1,_⟩:=xO _ hm;exact h.keep m x (xP h1).1 hb}
theorem fP {f:PV->PV->Prop}(hf:∀ a b,f a b->Le a b):∀ {a b:List PV},kP f a b->LeL a b
 |[],[],_=>by simp[LeL]| x::a,y::b,h=>by simp only[LeL];exact⟨hf _ _ h.1,fP hf h.2⟩| [],y::b,h=>h.elim| x::a,[],h=>h.elim
theorem zA9 {a b:PV}(h:les1 a b):Le a b:=by unfold les1 at h;split at h;{simp only[Le];exact fP (fun _ _ h=>h.h) h};{simp only[Le];exact fP (fun _ _ h=>h.h) h};{exact h.h}
theorem fG {a b:PV}(h:les a b):Le a b:=by unfold les at h;split at h;{simp only[Le];exact fP (fun _ _ h=>zA9 h) h};{simp only[Le];exact fP (fun _ _ h=>zA9 h) h};{simp only[Le];exact⟨yC h.1,fP (fun _ _ h=>zA9 h) h.2⟩};{exact h.h}
theorem cL {a b:List PV}(h:kP les a b):LeL a b:=fP (fun _ _ h=>fG h) h
theorem zCZ {src:List (Nat×PV)}:∀ {l:List (Nat×PV)},leT src l->∀ t,Le (zB src t) (zB l t)
 |[],_,t=>by simp[zB,Le]| (u,v)::r,h,t=>by
  simp only[zB];cases hu:nqb u t with
  |true=>have:=yC hu;subst this;exact fG h.1| false=>exact zCZ h.2 t
theorem cM {src:List (Nat×Obj')}:∀ {l:List (Nat×Obj')},leO src l->∀ {n o},(n,o)∈l->∃ o',(n,o')∈src/\eT o' o
 |(u,x)::r,h,n,o,hm=>by simp only[List.mem_cons] at hm;rcases hm with hm|hm;{cases hm;have h1:=h.1;split at h1;{rename_i o' ho;exact⟨o',yW ho,h1⟩};{exact h1.elim}};{exact cM h.2 hm}
theorem zC5 {n:Nat}:∀ {l:List (Nat×Obj')},hasN n l=false->n∉l.map Prod.fst
 |[],_=>by simp| (m,o)::r,h=>by simp only[hasN,Bool.or_eq_false_iff] at h;simp only[List.map_cons,List.mem_cons,not_or];exact⟨fun e=>by subst e;simp at h,zC5 h.2⟩
theorem uT:∀ {l:List (Nat×Obj')},ndO l=true->(l.map Prod.fst).Nodup
 |[],_=>List.nodup_nil| (n,o)::r,h=>by simp only[ndO,Bool.and_eq_true,Bool.not_eq_true'] at h;simp only[List.map_cons,List.nodup_cons];exact⟨zC5 h.1,uT h.2⟩
theorem zBB:∀ {hs hs':List (PV×(Unit->Nat))},hLe hs hs'->∀ {v k},(v,k)∈hs'->∃ v' k',(v',k')∈hs/\Le v' v/\k' ()=k ()
 |[],[],_,v,k,hm=>by cases hm
 |(x,j)::r,(y,l)::q,h,v,k,hm=>by rcases List.mem_cons.1 hm with hm|hm;{cases hm;refine⟨x,j,List.mem_cons_self,h.1.1.h,?_⟩;have:=h.1.2.h;simp only[Le,true_and] at this;omega};{obtain⟨v',k',h1,h2⟩:=zBB h.2 hm;exact⟨v',k',List.mem_cons_of_mem _ h1,h2⟩}
 |[],y::q,h,_,_,_=>h.elim| x::r,[],h,_,_,hm=>h.elim
theorem zC7:∀ {hs hs':List (PV×(Unit->Nat))},hLe hs hs'->∀ {v k},(v,k)∈hs->∃ v' k',(v',k')∈hs'/\k ()=k' ()
 |[],[],_,v,k,hm=>by cases hm
 |(x,j)::r,(y,l)::q,h,v,k,hm=>by rcases List.mem_cons.1 hm with hm|hm;{cases hm;refine⟨y,l,List.mem_cons_self,?_⟩;have:=h.1.2.h;simp only[Le,true_and] at this;omega};{obtain⟨v',k',h1,h2⟩:=zC7 h.2 hm;exact⟨v',k',List.mem_cons_of_mem _ h1,h2⟩}
 |[],y::q,h,_,_,hm=>h.elim| x::r,[],h,_,_,hm=>h.elim
theorem zAE {s:Nat}{rows:Unit->List (List (List D))}{hs hs':List (PV×(Unit->Nat))}(h:hLe hs hs')(i:Nat):x9 (.mat s rows hs) i↔x9 (.mat s rows hs') i:=by show (_/\_)↔(_/\_);constructor;{exact fun g=>⟨g.1,fun v k hk=>by obtain⟨v',k',h1,_,h3⟩:=zBB h hk;rw[<-h3];exact g.2 v' k' h1⟩};{exact fun g=>⟨g.1,fun v k hk=>by obtain⟨v',k',h1,h3⟩:=zC7 h hk;rw[h3];exact g.2 v' k' h1⟩}
inductive ObjLe':Obj'->Obj'->Prop
 |box {a b} (h:LeL a b):ObjLe' (.box a) (.box b)
 |refl (o):ObjLe' o o
 |ll (s els):ObjLe' (.lent s els) (.log s els)
 |mat {s rows hs hs'} (h:hLe hs hs'):ObjLe' (.mat s rows hs) (.mat s rows hs')
theorem l5 {o' o:Obj'}(h:eT o' o):ObjLe' o' o:=by
 cases o' <;> cases o <;> first
  |exact h.elim
  |exact .box (cL h)
  |(obtain⟨hs,he⟩:=h;have:=yC hs;subst this;cases fU he.h;first|exact .refl _|exact .ll _ _;done)
  |(obtain⟨hs,he,hh⟩:=h;have:=yC hs;subst this;cases fU he.h;exact .mat hh)
theorem ObjAt.le {n:Nat}{o o':Obj'}(h:ObjAt w S β n o')(hl:eT o' o):ObjAt w S β n o:=by
 cases l5 hl with
 |refl=>exact h| ll s els=>exact h.1| box hq =>
  obtain⟨b,vs,T,e1,e2,e3,e4⟩:=h;exact⟨b,vs,T,e1,e2,e3.trans (wX hq),fun j hj=>(e4 j (by rw[wX hq];exact hj)).le _ (d9 hq j hj)⟩
 | @mat s rows hs hs' hh =>
  obtain⟨hp,h5,h6⟩:=h;have hr:=fun i=>zAE (s:=s) (rows:=rows) hh i;refine⟨?_,fun i j b hi hj=>h5 i j b ((hr i).2 hi) ((hr j).2 hj),fun i b hi=>h6 i b ((hr i).2 hi)⟩;rcases hp with⟨e1,e2,e3⟩|⟨b,vs,T,h1,h2,h3,h4,h7⟩
  ·subst e3;refine .inl ⟨e1,e2,?_⟩;cases hs' with
   |nil=>rfl| cons x r=>exact hh.elim
  {exact .inr ⟨b,vs,T,h1,h2,h3,fun v k hk=>by obtain⟨v',k',g1,g2,g3⟩:=zBB hh hk;rw[<-g3];exact⟨(h4 v' k' g1).1,(h4 v' k' g1).2.le _ g2⟩,fun i hi=>h7 i ((hr i).2 hi)⟩}
theorem zIK {o o':Obj'}(hl:eT o' o){i:Nat}(h:uZ o' i):uZ o i:=by
 cases l5 hl with
 |refl=>exact h| ll s els=>exact h| box hl=>exact h.elim| mat hh=>exact h.elim
theorem lX {n:Nat}{o o':Obj'}{b:Nat}(hl:eT o' o)(h:Own β n o b):Own β n o' b:=by
 cases l5 hl with
 |refl=>exact h| ll s els=>exact .inl (yR (by intro _ hi;exact hi) h)| box hl=>exact .inl (yR (by intro _ hi;exact hi) h)| mat hh =>
  rcases h with h|⟨i,h1,h2⟩;{exact .inl h};{exact .inr ⟨i,(zAE hh i).2 h1,h2⟩}
theorem Sim.le {ps ps':PS}(h:Sim w0 S0 K0 N (zB ps.tmps) ps.objs a w S β)(ht:leT ps.tmps ps'.tmps)(ho:leO ps.objs ps'.objs)(hn:ndO ps'.objs=true):Sim w0 S0 K0 N (zB ps'.tmps) ps'.objs a w S β where
 dfr:=h.dfr
 sz:=h.sz
 ld:=h.ld
 tmp t:=(h.tmp t).le _ (zCZ ht t)
 obj:=⟨uT hn,fun n o hm=>by obtain⟨o',h1,h2⟩:=cM ho hm;exact (h.obj.at_ n o' h1).le h2,
  fun n o b hm hβ=>by obtain⟨o',h1,h2⟩:=cM ho hm;exact⟨fun i hS=>zIK h2 ((h.obj.un n o' b h1 (lX h2 hβ)).1 i hS),(h.obj.un n o' b h1 (lX h2 hβ)).2⟩,
  fun n o m o' b hm hm' hβ hβ'=>by obtain⟨x,h1,g1⟩:=cM ho hm;obtain⟨y,h2,g2⟩:=cM ho hm';exact h.obj.inj _ _ _ _ b h1 h2 (lX g1 hβ) (lX g2 hβ')⟩
 own n o b hm hβ:=by obtain⟨o',h1,g1⟩:=cM ho hm;exact h.own n o' b h1 (lX g1 hβ)
 keep n o hm hb:=by obtain⟨o',h1,_⟩:=cM ho hm;exact h.keep n o' h1 hb
theorem xZ {n:Nat}:∀ {l:List (Nat×PV)},dN n l=true->∀ t,y7 n (zB l t)=true
 |[],_,t=>rfl| (u,v)::r,h,t=>by
  simp only[dN,Bool.and_eq_true] at h;simp only[zB];cases nqb u t with
  |true=>exact h.1| false=>exact xZ h.2 t
def kX (n:Nat):Obj'->Prop
 |.box cs=>xT n cs=true| .arr _ _=>True| .log _ _=>True| .lent _ _=>True| .mat _ _ hs=>fB n hs=true
theorem sB {n u:Nat}{o:Obj'}{r:List (Nat×Obj')}(h:xA n ((u,o)::r)=true):u≠n/\kX n o/\xA n r=true:=by
 cases o with
 |box cs=>simp only[xA,Bool.and_eq_true] at h;exact⟨gE h.1.1,h.1.2,h.2⟩| arr s els=>simp only[xA,Bool.and_eq_true] at h;exact⟨gE h.1,trivial,h.2⟩| log s els=>simp only[xA,Bool.and_eq_true] at h;exact⟨gE h.1,trivial,h.2⟩| lent s els=>simp only[xA,Bool.and_eq_true] at h;exact⟨gE h.1,trivial,h.2⟩| mat s rows hs=>simp only[xA,Bool.and_eq_true] at h;exact⟨gE h.1.1,h.1.2,h.2⟩
theorem wG {n:Nat}{l:List (Nat×Obj')}(h:xA n l=true):n<1000000:=by
 induction l with
 |nil=>exact bN (by rw[xA] at h;exact h)| cons a r ih=>exact ih (sB (u:=a.1) (o:=a.2) h).2.2
theorem yA {n:Nat}{l:List (Nat×Obj')}(h:xA n l=true):∀ {m o},(m,o)∈l->m≠n/\kX n o:=by
 induction l with
 |nil=>intro m o hm;exact absurd hm (by simp)| cons a r ih =>
  intro m o hm;obtain⟨h1,h2,h3⟩:=sB (u:=a.1) (o:=a.2) h;rcases List.mem_cons.1 hm with hm|hm;{cases hm;exact⟨h1,h2⟩};{exact ih h3 hm}
theorem j6 {n:Nat}:∀ {hs:List (PV×(Unit->Nat))},fB n hs=true->∀ {v k},(v,k)∈hs->y7 n v=true
 |(u,j)::r,h,v,k,hm=>by simp only[fB,Bool.and_eq_true] at h;rcases List.mem_cons.1 hm with hm|hm;{cases hm;exact h.1};{exact j6 h.2 hm}
theorem RowAt.upd {n:Nat}{x:Option Nat}{m s:Nat}{els:Unit->List (List D)}(h:RowAt w S β m s els)(hm:m≠n):RowAt w S (vG β n x) m s els:=by rcases h with⟨e0,e⟩|⟨b,vs,T,e1,rest⟩;{exact .inl ⟨by rw[xU hm];exact e0,e⟩};{exact .inr ⟨b,vs,T,by rw[xU hm];exact e1,rest⟩}
theorem ObjAt.upd {n:Nat}{x:Option Nat}{m:Nat}{o:Obj'}(h:ObjAt w S β m o)(hm:m≠n)(hf:kX n o):ObjAt w S (vG β n x) m o:=by
 cases o with
 |box cs =>
  obtain⟨b,vs,T,e1,e2,e3,e4⟩:=h;exact⟨b,vs,T,by rw[xU hm];exact e1,e2,e3,fun j hj=>(e4 j hj).upd (y6 rfl hf j)⟩
 |arr s els=>exact RowAt.upd h hm| log s els=>exact RowAt.upd h hm| lent s els =>
  obtain⟨h,hst⟩:=h;exact⟨RowAt.upd h hm,fun b hb i hi=>hst b (by rw[xU hm] at hb;exact hb) i hi⟩
 |mat s rows hs =>
  obtain⟨hp,h5,h6⟩:=h;refine⟨?_,h5,fun i b hi hb=>by rw[xU hm];exact h6 i b hi hb⟩;rcases hp with⟨e1,e2,e3⟩|⟨b,vs,T,h1,h2,h3,h4,h7⟩;{exact .inl ⟨by rw[xU hm];exact e1,e2,e3⟩};{exact .inr ⟨b,vs,T,by rw[xU hm];exact h1,h2,h3,fun v k hk=>⟨(h4 v k hk).1,(h4 v k hk).2.upd (j6 hf hk)⟩,h7⟩}
theorem Sim.freshO {ps:PS}(h:Sim w0 S0 K0 N (zB ps.tmps) ps.objs a w S β){n:Nat}{O:Obj'}(hf:yE n ps=true)(hO:∀ β':Bm,β' n=none->ObjAt w S β' n O)(hr:∀ i,¬x9 O i):Sim w0 S0 K0 N (zB ps.tmps) (ps.objs++[(n,O)]) a w S (vG β n none):=by
 simp only[yE,Bool.and_eq_true] at hf;have hmem:∀ {m o},(m,o)∈ps.objs++[(n,O)]->((m,o)∈ps.objs/\m≠n)\/(m=n/\o=O):=by intro m o hm;simp only[List.mem_append,List.mem_singleton] at hm;rcases hm with hm|hm;{exact .inl ⟨hm,(yA hf.2 hm).1⟩};{cases hm;exact .inr ⟨rfl,rfl⟩}
 refine⟨h.dfr,h.sz,h.ld,fun t=>(h.tmp t).upd (xZ hf.1 t),⟨?_,?_,?_,?_⟩,?_,?_⟩;{rw[List.map_append,List.nodup_append];refine⟨h.obj.nd,by simp,?_⟩;intro x hx y hy e;simp at hy;subst hy e;obtain⟨⟨m,o⟩,h1,rfl⟩:=List.mem_map.1 hx;exact (yA hf.2 h1).1 rfl};{intro m o hm;rcases hmem hm with⟨h1,h2⟩|⟨rfl,rfl⟩;{exact (h.obj.at_ m o h1).upd h2 (yA hf.2 h1).2};{exact hO _ yI}};{intro m o b hm hβ;rcases hmem hm with⟨h1,h2⟩|⟨rfl,rfl⟩;{exact h.obj.un m o b h1 (x4 h2 hβ)};{have:=yR hr hβ;rw[yI] at this;cases this}};{intro m o m' o' b hm hm' hβ hβ';rcases hmem hm with⟨h1,h2⟩|⟨rfl,rfl⟩;{rcases hmem hm' with⟨h3,h4⟩|⟨rfl,rfl⟩;{exact h.obj.inj _ _ _ _ b h1 h3 (x4 h2 hβ) (x4 h4 hβ')};{have:=yR hr hβ';rw[yI] at this;cases this}};{have:=yR hr hβ;rw[yI] at this;cases this}};{intro m o b hm hβ;rcases hmem hm with⟨h1,h2⟩|⟨rfl,rfl⟩;{exact h.own m o b h1 (x4 h2 hβ)};{have:=yR hr hβ;rw[yI] at this;cases this}};{intro m o hm hb;rcases hmem hm with⟨h1,h2⟩|⟨rfl,rfl⟩;{rw[xU h2];exact h.keep m o h1 hb};{have:=wG hf.2;omega}}
theorem Sim.fresh {ps:PS}(h:Sim w0 S0 K0 N (zB ps.tmps) ps.objs a w S β){n s:Nat}(hf:yE n ps=true):Sim w0 S0 K0 N (zB ps.tmps) (ps.objs++[(n,.arr s (fun _=>[]))]) a w S (vG β n none):=h.freshO hf (fun β' h=>.inl ⟨h,rfl⟩) fun _ hi=>hi
theorem Sim.setT {ps:PS}(h:Sim w0 S0 K0 N (zB ps.tmps) objs a w S β){t:Nat}{x:PV}(hx:Rep w S β (a.tmps.getD t undef) x):Sim w0 S0 K0 N (zB (w9 ps.tmps t x)) objs a w S β :=
 ⟨h.dfr,h.sz,h.ld,fun u=>by
  rw[jV];by_cases e:u=t;{subst e;simpa using hx}
  ·simpa[e] using h.tmp u,h.obj,h.own,h.keep⟩
theorem xK:∀ {l:List (Nat×Obj')} {n:Nat} {x:Obj'} {m:Nat} {o:Obj'},(l.map Prod.fst).Nodup->n∈l.map Prod.fst->(m,o)∈setO l n x->(m=n/\o=x)\/(m≠n/\(m,o)∈l)
 |(u,v)::r,n,x,m,o,hnd,hn,hm=>by
  simp only[List.map_cons,List.nodup_cons] at hnd;simp only[setO] at hm;cases hu:nqb u n with
  |true =>
   have:=yC hu;subst this;simp only[hu,cond_true,List.mem_cons] at hm;rcases hm with hm|hm;{cases hm;exact .inl ⟨rfl,rfl⟩};{refine .inr ⟨fun e=>?_,List.mem_cons_of_mem _ hm⟩;subst e;exact hnd.1 (List.mem_map.2 ⟨_,hm,rfl⟩)}
  |false =>
   (have hne:u≠n:=fun e=>by subst e;simp at hu);simp only[hu,cond_false,List.mem_cons] at hm
   rcases hm with hm|hm;{cases hm;exact .inr ⟨hne,List.mem_cons_self⟩}
   ·(have hn':n∈r.map Prod.fst:=by simp only[List.map_cons,List.mem_cons] at hn;rcases hn with hn|hn;{exact absurd hn.symm hne};{exact hn});rcases xK hnd.2 hn' hm with h|⟨h1,h2⟩;{exact .inl h};{exact .inr ⟨h1,List.mem_cons_of_mem _ h2⟩}
 |[],n,x,m,o,hnd,hn,hm=>by simp at hn
theorem wU:∀ {l:List (Nat×Obj')} {n:Nat} {x:Obj'},n∈l.map Prod.fst->(setO l n x).map Prod.fst=l.map Prod.fst
 |(u,v)::r,n,x,hn=>by
  simp only[setO];cases hu:nqb u n with
  |true=>have:=yC hu;subst this;rfl
  |false =>
   (have hne:u≠n:=fun e=>by subst e;simp at hu);have hn':n∈r.map Prod.fst:=by simp only[List.map_cons,List.mem_cons] at hn;rcases hn with hn|hn;{exact absurd hn.symm hne};{exact hn}
   simp only[cond_false,List.map_cons,wU hn']
 |[],n,x,hn=>by simp at hn
theorem zJ8:∀ {l:List (Nat×Obj')} {n:Nat} {x y:Obj'},(l.map Prod.fst).Nodup->(n,x)∈l->(n,y)∈l->x=y
 |(u,v)::r,n,x,y,hnd,h1,h2=>by simp only[List.map_cons,List.nodup_cons] at hnd;rcases List.mem_cons.1 h1 with e1|h1;{rcases List.mem_cons.1 h2 with e2|h2;{cases e1;cases e2;rfl};{cases e1;exact absurd (List.mem_map.2 ⟨_,h2,rfl⟩) hnd.1}};{rcases List.mem_cons.1 h2 with e2|h2;{cases e2;exact absurd (List.mem_map.2 ⟨_,h1,rfl⟩) hnd.1};{exact zJ8 hnd.2 h1 h2}}
theorem Sim.lend {ps:PS}(h:Sim w0 S0 K0 N (zB ps.tmps) ps.objs a w S β){n t:Nat}{o:Obj'}{s:Nat}{els:Unit->List (List D)}(ho:z7 ps.objs n=some o)(hr:eW o=some (s,els))(hf:fo n o (zB ps.tmps t)):∃ S' β',Sim w0 S0 K0 N (zB (w9 ps.tmps t (Go.Proofs.YtfainocfaddbdaaGreat.frz n o (zB ps.tmps t)))) (Go.Proofs.YtfainocfaddbdaaGreat.setO ps.objs n (.log s els)) a w S' β':=by
 have hmem:=yW ho;have hsz:=zET hr;have F:FrzAt w S (fun b i=>S b i\/(β n=some b/\i<szO o)) β n o:=⟨fun b i=>.inl,fun b h i hi=>.inr ⟨h,hi⟩,h.obj.at_ n o hmem,by cases o <;> first|rfl|cases hr⟩;have hpo:∀ i,uZ o i->i<szO o:=fun i hi=>by cases o <;> first|exact hi.elim|exact hi
 have hnin:n∈ps.objs.map Prod.fst:=List.mem_map.2 ⟨_,hmem,rfl⟩;have h1:Sim w0 S0 K0 N (zB ps.tmps) (Go.Proofs.YtfainocfaddbdaaGreat.setO ps.objs n (.log s els)) a w (fun b i=>S b i\/(β n=some b/\i<szO o)) β:=by
  refine⟨h.dfr,h.sz,?_,fun t=>(h.tmp t).mono F.sub,⟨by rw[wU hnin];exact h.obj.nd,?_,?_,?_⟩,?_,?_⟩;{refine⟨h.ld.size,h.ld.os,h.ld.tape,h.ld.output,h.ld.same,h.ld.shape,?_,?_,?_⟩;{rintro b i (hS|hβ);{exact h.ld.bnd b i hS};{exact (h.obj.un n o b hmem (.inl hβ.1)).2}};{exact fun b i hb hS=>.inl (h.ld.sub b i hb hS)};{rintro b i hb hk (hS|hβ);{exact h.ld.old b i hb hk hS};{rcases h.own n o b hmem (.inl hβ.1) with h'|h';{omega};{exact absurd h' hk}}}};{intro m x hm;rcases xK h.obj.nd hnin hm with⟨rfl,rfl⟩|⟨_,h2⟩;{exact RowAt.mono (rW hr (h.obj.at_ _ o hmem)) F.sub};{exact (h.obj.at_ m x h2).mono F.sub}};{intro m x b hm hβ;rcases xK h.obj.nd hnin hm with⟨rfl,rfl⟩|⟨hne,h2⟩;{have hβ:=yR (by intro _ hi;exact hi) hβ;refine⟨?_,(h.obj.un _ o b hmem (.inl hβ)).2⟩;rintro i (hS|hS);{have:=hpo i ((h.obj.un _ o b hmem (.inl hβ)).1 i hS);rw[hsz] at this;exact this};{rw[hsz] at hS;exact hS.2}};{refine⟨?_,(h.obj.un m x b h2 hβ).2⟩;rintro i (hS|hS);{exact (h.obj.un m x b h2 hβ).1 i hS};{exact absurd (h.obj.inj _ _ _ _ b h2 hmem hβ (.inl hS.1)) hne}}}
  ·(intro m x m' x' b hm hm' hβ hβ';have key:∀ {m x},(m,x)∈Go.Proofs.YtfainocfaddbdaaGreat.setO ps.objs n (.log s els)->Own β m x b->∃ x',(m,x')∈ps.objs/\Own β m x' b:=by intro m x hm hb;rcases xK h.obj.nd hnin hm with⟨rfl,rfl⟩|⟨_,h2⟩;{exact⟨o,hmem,.inl (yR (by intro _ hi;exact hi) hb)⟩};{exact⟨x,h2,hb⟩});obtain⟨x1,h1,g1⟩:=key hm hβ;obtain⟨x2,h2,g2⟩:=key hm' hβ';exact h.obj.inj _ _ _ _ b h1 h2 g1 g2
  {intro m x b hm hβ;rcases xK h.obj.nd hnin hm with⟨rfl,rfl⟩|⟨_,h2⟩;{exact h.own _ o b hmem (.inl (yR (by intro _ hi;exact hi) hβ))};{exact h.own m x b h2 hβ}};{intro m x hm hb;rcases xK h.obj.nd hnin hm with⟨rfl,rfl⟩|⟨_,h2⟩;{exact h.keep _ o hmem hb};{exact h.keep m x h2 hb}}
 exact⟨_,β,h1.setT (frz2 F (h.tmp t) hf)⟩
theorem Sim.pub {ps:PS}(h:Sim w0 S0 K0 N (zB ps.tmps) ps.objs a w S β){n:Nat}{o:Obj'}{s:Nat}{els:Unit->List (List D)}(ho:z7 ps.objs n=some o)(hr:eW o=some (s,els)):∃ S' β',Sim w0 S0 K0 N (zB ps.tmps) (Go.Proofs.YtfainocfaddbdaaGreat.setO ps.objs n (.lent s els)) a w S' β':=by
 have hmem:=yW ho;have hsz:=zET hr;have F:FrzAt w S (fun b i=>S b i\/(β n=some b/\i<szO o)) β n o:=⟨fun b i=>.inl,fun b h i hi=>.inr ⟨h,hi⟩,h.obj.at_ n o hmem,by cases o <;> first|rfl|cases hr⟩;have hpo:∀ i,uZ o i->i<szO o:=fun i hi=>by cases o <;> first|exact hi.elim|exact hi
 have hnin:n∈ps.objs.map Prod.fst:=List.mem_map.2 ⟨_,hmem,rfl⟩;have h1:Sim w0 S0 K0 N (zB ps.tmps) (Go.Proofs.YtfainocfaddbdaaGreat.setO ps.objs n (.lent s els)) a w (fun b i=>S b i\/(β n=some b/\i<szO o)) β:=by
  refine⟨h.dfr,h.sz,?_,fun t=>(h.tmp t).mono F.sub,⟨by rw[wU hnin];exact h.obj.nd,?_,?_,?_⟩,?_,?_⟩;{refine⟨h.ld.size,h.ld.os,h.ld.tape,h.ld.output,h.ld.same,h.ld.shape,?_,?_,?_⟩;{rintro b i (hS|hβ);{exact h.ld.bnd b i hS};{exact (h.obj.un n o b hmem (.inl hβ.1)).2}};{exact fun b i hb hS=>.inl (h.ld.sub b i hb hS)};{rintro b i hb hk (hS|hβ);{exact h.ld.old b i hb hk hS};{rcases h.own n o b hmem (.inl hβ.1) with h'|h';{omega};{exact absurd h' hk}}}};{intro m x hm;rcases xK h.obj.nd hnin hm with⟨rfl,rfl⟩|⟨_,h2⟩;{exact⟨RowAt.mono (rW hr (h.obj.at_ _ o hmem)) F.sub,fun b hb i hi=>F.new b hb i (by rw[hsz];exact hi)⟩};{exact (h.obj.at_ m x h2).mono F.sub}};{intro m x b hm hβ;rcases xK h.obj.nd hnin hm with⟨rfl,rfl⟩|⟨hne,h2⟩;{have hβ:=yR (by intro _ hi;exact hi) hβ;refine⟨?_,(h.obj.un _ o b hmem (.inl hβ)).2⟩;rintro i (hS|hS);{have:=hpo i ((h.obj.un _ o b hmem (.inl hβ)).1 i hS);rw[hsz] at this;exact this};{rw[hsz] at hS;exact hS.2}};{refine⟨?_,(h.obj.un m x b h2 hβ).2⟩;rintro i (hS|hS);{exact (h.obj.un m x b h2 hβ).1 i hS};{exact absurd (h.obj.inj _ _ _ _ b h2 hmem hβ (.inl hS.1)) hne}}}
  ·(intro m x m' x' b hm hm' hβ hβ';have key:∀ {m x},(m,x)∈Go.Proofs.YtfainocfaddbdaaGreat.setO ps.objs n (.lent s els)->Own β m x b->∃ x',(m,x')∈ps.objs/\Own β m x' b:=by intro m x hm hb;rcases xK h.obj.nd hnin hm with⟨rfl,rfl⟩|⟨_,h2⟩;{exact⟨o,hmem,.inl (yR (by intro _ hi;exact hi) hb)⟩};{exact⟨x,h2,hb⟩});obtain⟨x1,h1,g1⟩:=key hm hβ;obtain⟨x2,h2,g2⟩:=key hm' hβ';exact h.obj.inj _ _ _ _ b h1 h2 g1 g2
  {intro m x b hm hβ;rcases xK h.obj.nd hnin hm with⟨rfl,rfl⟩|⟨_,h2⟩;{exact h.own _ o b hmem (.inl (yR (by intro _ hi;exact hi) hβ))};{exact h.own m x b h2 hβ}};{intro m x hm hb;rcases xK h.obj.nd hnin hm with⟨rfl,rfl⟩|⟨_,h2⟩;{exact h.keep _ o hmem hb};{exact h.keep m x h2 hb}}
 exact⟨_,β,h1⟩
theorem Sim.setO (h:Sim w0 S0 K0 N τ objs a w S β){n:Nat}{x:Obj'}(hn:n∈objs.map Prod.fst)(hx:ObjAt w S β n x)(hpub:∀ o0,(n,o0)∈objs->∀ i,uZ o0 i->uZ x i)(hown:∀ o0,(n,o0)∈objs->∀ b,Own β n x b->Own β n o0 b):Sim w0 S0 K0 N τ (Go.Proofs.YtfainocfaddbdaaGreat.setO objs n x) a w S β:=by
 obtain⟨⟨n',o0⟩,hm0,rfl⟩:=List.mem_map.1 hn;have key:∀ {m o b},(m,o)∈Go.Proofs.YtfainocfaddbdaaGreat.setO objs n' x->Own β m o b->∃ o',(m,o')∈objs/\Own β m o' b:=by intro m o b hm hb;rcases xK h.obj.nd hn hm with⟨rfl,rfl⟩|⟨_,h2⟩;{exact⟨o0,hm0,hown o0 hm0 b hb⟩};{exact⟨o,h2,hb⟩}
 have key0:∀ {m o},(m,o)∈Go.Proofs.YtfainocfaddbdaaGreat.setO objs n' x->∃ o',(m,o')∈objs:=by intro m o hm;rcases xK h.obj.nd hn hm with⟨rfl,rfl⟩|⟨_,h2⟩;{exact⟨o0,hm0⟩};{exact⟨o,h2⟩}
 refine⟨h.dfr,h.sz,h.ld,h.tmp,⟨by rw[wU hn];exact h.obj.nd,?_,?_,?_⟩,?_,?_⟩;{intro m o hm;rcases xK h.obj.nd hn hm with⟨rfl,rfl⟩|⟨_,h2⟩;{exact hx};{exact h.obj.at_ m o h2}};{intro m o b hm hβ;rcases xK h.obj.nd hn hm with⟨rfl,rfl⟩|⟨_,h2⟩;{have hβ:=hown o0 hm0 b hβ;exact⟨fun i hS=>hpub o0 hm0 i ((h.obj.un _ o0 b hm0 hβ).1 i hS),(h.obj.un _ o0 b hm0 hβ).2⟩};{exact h.obj.un m o b h2 hβ}};{intro m o m' o' b hm hm' hβ hβ';obtain⟨x1,h1,g1⟩:=key hm hβ;obtain⟨x2,h2,g2⟩:=key hm' hβ';exact h.obj.inj _ _ _ _ b h1 h2 g1 g2};{intro m o b hm hβ;obtain⟨o',h1,g1⟩:=key hm hβ;exact h.own m o' b h1 g1};{intro m o hm hb;obtain⟨o',h1⟩:=key0 hm;exact h.keep m o' h1 hb}
theorem zBN (cs:List PV)(j k:Nat)(x:PV)(hk:k<cs.length):(cs.set j x).getD k .any=if j=k then x else cs.getD k .any:=by simp only[List.getD_eq_getElem?_getD,List.getElem?_set];by_cases h:j=k;{subst h;simp[hk]};{simp[h]}
theorem rT {n:Nat}{v pv}(h:Rep w S β v pv):Rep w S β v (sc0 n pv):=by
 cases pv with
 |agg cs=>exact xL _| tup cs=>exact xL _| fn f cs=>exact xL _| ptr m off=>simp only[sc0];cases nqb m n <;> first|exact h|exact xL _
 |aptr m s i off=>simp only[sc0];cases nqb m n <;> first|exact h|exact xL _
 |osl m s i len=>simp only[sc0];cases nqb m n <;> first|exact h|exact xL _
 |_=>exact h
theorem zAZ {n:Nat}{v pv}(h:Rep w S β v pv):Rep w S β v (sc1 n pv):=by
 cases pv with
 |agg cs =>
  obtain⟨vs,rfl,h1,h2⟩:=vL h;exact .agg (by rw[zH];exact h1) fun j hj=>by rw[zH] at hj;rw[z8 _ rfl];exact rT (h2 j hj)
 |tup cs =>
  obtain⟨vs,rfl,h1,h2⟩:=kS h;exact .tup (by rw[zH];exact h1) fun j hj=>by rw[zH] at hj;rw[z8 _ rfl];exact rT (h2 j hj)
 |fn f cs =>
  obtain⟨vs,rfl,h1,h2⟩:=kT h;exact .fn (by rw[zH];exact h1) fun j hj=>by rw[zH] at hj;rw[z8 _ rfl];exact rT (h2 j hj)
 |_=>exact rT (n:=n) h
theorem nF {n:Nat}{v pv}(h:Rep w S β v pv):Rep w S β v (scr n pv):=by
 cases pv with
 |agg cs =>
  obtain⟨vs,rfl,h1,h2⟩:=vL h;exact .agg (by rw[zH];exact h1) fun j hj=>by rw[zH] at hj;rw[z8 _ rfl];exact zAZ (h2 j hj)
 |tup cs =>
  obtain⟨vs,rfl,h1,h2⟩:=kS h;exact .tup (by rw[zH];exact h1) fun j hj=>by rw[zH] at hj;rw[z8 _ rfl];exact zAZ (h2 j hj)
 |fn f cs =>
  obtain⟨vs,rfl,h1,h2⟩:=kT h;exact .fn (by rw[zH];exact h1) fun j hj=>by rw[zH] at hj;rw[z8 _ rfl];exact zAZ (h2 j hj)
 |_=>exact rT (n:=n) h
theorem aE (n:Nat):scr n .any=.any:=rfl
theorem Sim.drop {ps:PS}(h:Sim w0 S0 K0 N (zB ps.tmps) ps.objs a w S β)(n:Nat):Sim w0 S0 K0 N (zB (xY (scr n) ps.tmps)) (yS (scr n) (xC ps.objs n)) a w S β:=by
 refine⟨h.dfr,h.sz,h.ld,fun t=>by rw[uE _ (aE n)];exact nF (h.tmp t),⟨?_,?_,?_,?_⟩,?_,?_⟩;{rw[kB];exact (bZ _ _).nodup h.obj.nd}
 ·intro m o' hm;obtain⟨o'',h1,h2⟩:=xO _ hm;obtain⟨h3,h4⟩:=xP h1;have hat:=h.obj.at_ m o'' h3;cases o'' with
  |box cs =>
   subst h2;obtain⟨b,vs,T,e1,e2,e3,e4⟩:=hat;exact⟨b,vs,T,e1,e2,by rw[zH];exact e3,fun j hj=>by rw[zH] at hj;rw[z8 _ (aE n)];exact nF (e4 j hj)⟩
  |arr s els=>subst h2;exact hat| log s els=>subst h2;exact hat| lent s els=>subst h2;exact hat| mat s rows hs=>subst h2;exact MatAt.map hat (fun _ _ h=>h) fun v x k hk hv=>nF hv
 {intro m o' b hm hβ;obtain⟨o'',h1,rfl⟩:=xO _ hm;have:=h.obj.un m o'' b (xP h1).1 (wI hβ);exact⟨fun i hS=>dP (this.1 i hS),this.2⟩};{intro m o' m' o'' b hm hm' hβ hβ';obtain⟨x,h1,rfl⟩:=xO _ hm;obtain⟨y,h2,rfl⟩:=xO _ hm';exact h.obj.inj _ _ _ _ b (xP h1).1 (xP h2).1 (wI hβ) (wI hβ')};{intro m o' b hm hβ;obtain⟨x,h1,rfl⟩:=xO _ hm;exact h.own m x b (xP h1).1 (wI hβ)};{intro m o' hm hb;obtain⟨x,h1,_⟩:=xO _ hm;exact h.keep m x (xP h1).1 hb}
theorem Sim.adopt {ps:PS}(h:Sim w0 S0 K0 N (zB ps.tmps) ps.objs a w S β){n s m j:Nat}{cs:List PV}{O:Obj'}(hO:∀ β':Bm,β' n=none->ObjAt w S β' n O)(hr:∀ i,¬x9 O i)(hf:yE n ps=true)(ho:z7 ps.objs m=some (.box cs))(hj:cs[j]?=some .nil):∃ S' β',Sim w0 S0 K0 N (zB ps.tmps) (Go.Proofs.YtfainocfaddbdaaGreat.setO ps.objs m (.box (cs.set j (.osl n s (fun _=>0) (fun _=>0))))++[(n,O)]) a w S' β':=by
 have hmem:=yW ho;have hf':=hf;simp only[yE,Bool.and_eq_true] at hf';have hmn:=(yA hf'.2 hmem).1;have h1:=h.freshO hf hO hr;obtain⟨b,vs,T,e1,e2,e3,e4⟩:=h.obj.at_ m _ hmem;have hin:m∈(ps.objs++[(n,O)]).map Prod.fst:=by rw[List.map_append];exact List.mem_append_left _ (List.mem_map.2 ⟨_,hmem,rfl⟩)
 have hjl:j<cs.length:=by rcases Nat.lt_or_ge j cs.length with h'|h';{exact h'};{rw[List.getElem?_eq_none h'] at hj;cases hj}
 have h2:=h1.setO (n:=m) (x:=.box (cs.set j (.osl n s (fun _=>0) (fun _=>0)))) hin ⟨b,vs,T,by rw[xU hmn];exact e1,e2,by simpa using e3,fun k hk=>by
  simp only[List.length_set] at hk;rw[zBN _ _ _ _ hk];by_cases hjk:j=k
  ·(subst hjk;rw[if_pos rfl];have:=e4 j hk;have hg:cs.getD j .any=.nil:=by rw[List.getD_eq_getElem?_getD,hj];rfl);rw[hg] at this
   have hv:=qP this;rw[hv];exact .osl0 yI rfl rfl
  ·rw[if_neg hjk];exact (e4 k hk).upd (y6 rfl (yA hf'.2 hmem).2 k)⟩ (fun o0 ho0 i hp=>by
  have hms:(m,Obj'.box cs)∈ps.objs++[(n,O)]:=List.mem_append_left _ hmem;have:=zJ8 h1.obj.nd ho0 hms;rw[this] at hp;exact hp.elim) (fun o0 _ b hb=>.inl (yR (by intro _ hi;exact hi) hb))
 refine⟨S,vG β n none,?_⟩;have:Go.Proofs.YtfainocfaddbdaaGreat.setO (ps.objs++[(n,O)]) m (.box (cs.set j (.osl n s (fun _=>0) (fun _=>0))))=Go.Proofs.YtfainocfaddbdaaGreat.setO ps.objs m (.box (cs.set j (.osl n s (fun _=>0) (fun _=>0))))++[(n,O)]:=by
  have gen:∀ (l:List (Nat×Obj')) (k:List (Nat×Obj')) (x:Obj'),m∈l.map Prod.fst->Go.Proofs.YtfainocfaddbdaaGreat.setO (l++k) m x=Go.Proofs.YtfainocfaddbdaaGreat.setO l m x++k:=by
   intro l k x hm;induction l with
   |nil=>simp at hm| cons p r ih =>
    obtain⟨u,v⟩:=p;simp only[List.cons_append,Go.Proofs.YtfainocfaddbdaaGreat.setO];cases hu:nqb u m with
    |true=>rfl| false =>
     (have hne:u≠m:=fun e=>by subst e;simp at hu);simp only[List.map_cons,List.mem_cons] at hm
     simp only[cond_false,List.cons_append];rw[ih (hm.resolve_left fun e=>hne e.symm)]
  exact gen _ _ _ (List.mem_map.2 ⟨_,hmem,rfl⟩)
 rw[this] at h2;exact h2
theorem bR (f:PV->PV):∀ (l k:List (PV×(Unit->Nat))),qH f (l++k)=qH f l++qH f k
 |[],k=>rfl| (v,i)::r,k=>by simp only[List.cons_append,qH,bR f r k]
theorem Sim.focus {ps:PS}(h:Sim w0 S0 K0 N (zB ps.tmps) ps.objs a w S β){n k:Nat}{i:Unit->Nat}{s:Nat}{rows:Unit->List (List (List D))}{hs:List (PV×(Unit->Nat))}(ho:z7 ps.objs n=some (.mat s rows hs))(hf:yE k ps=true)(hi:FocOk i rows hs):Sim w0 S0 K0 N (zB ps.tmps) (Go.Proofs.YtfainocfaddbdaaGreat.setO ps.objs n (.mat s rows ((.osl k s (fun _=>0) (fun _=>((rows ()).getD (i ()) []).length),i)::hs))++[(k,.arr s (fun _=>(rows ()).getD (i ()) []))]) a w S (vG β k (β.r n (i ()))):=by
 have hmem:=yW ho;simp only[yE,Bool.and_eq_true] at hf;obtain⟨hil,hih⟩:=hi.h;have hnk:n≠k:=(yA hf.2 hmem).1;have hM:MatAt w S β n s rows hs:=h.obj.at_ n _ hmem;have hri:x9 (.mat s rows hs) (i ()):=⟨hil,hih⟩;have hnin:n∈ps.objs.map Prod.fst:=List.mem_map.2 ⟨_,hmem,rfl⟩;obtain⟨b0,vs,T,hβ,hb,hsz,hhs,hrs⟩:∃ (b:Nat) (vs:Array Value) (T:TypeId),β n=some b/\w.heap[b]?=some (.cells vs T (0,0))/\(rows ()).length<=vs.size /\
   (∀ v k,(v,k)∈hs->k ()<(rows ()).length/\Rep w S β (vs.getD (k ()) undef) v)/\∀ i,x9 (.mat s rows hs) i->RowIn w S (β.r n i) (vs.getD i undef) s ((rows ()).getD i []):=by
  rcases hM.pl with⟨_,h2,_⟩|h2;{rw[h2] at hil;simp at hil};{exact h2}
 have hrow:=hrs _ hri;have hsub:∀ {j},x9 (.mat s rows ((.osl k s (fun _=>0) (fun _=>((rows ()).getD (i ()) []).length),i)::hs)) j->x9 (.mat s rows hs) j/\j≠i () :=
  fun hj=>⟨⟨hj.1,fun v k' hk'=>hj.2 v k' (List.mem_cons_of_mem _ hk')⟩,fun e=>hj.2 _ i List.mem_cons_self e.symm⟩
 have key:∀ {m o},(m,o)∈Go.Proofs.YtfainocfaddbdaaGreat.setO ps.objs n (.mat s rows ((.osl k s (fun _=>0) (fun _=>((rows ()).getD (i ()) []).length),i)::hs))++[(k,Obj'.arr s (fun _=>(rows ()).getD (i ()) []))] ->
   (m=n/\o=.mat s rows ((.osl k s (fun _=>0) (fun _=>((rows ()).getD (i ()) []).length),i)::hs))\/(m≠n/\m≠k/\(m,o)∈ps.objs)\/(m=k/\o=.arr s (fun _=>(rows ()).getD (i ()) [])):=by
  intro m o hm;rcases List.mem_append.1 hm with hm|hm;{rcases xK h.obj.nd hnin hm with h1|⟨h1,h2⟩;{exact .inl h1};{exact .inr (.inl ⟨h1,(yA hf.2 h2).1,h2⟩)}};{simp only[List.mem_singleton,Prod.mk.injEq] at hm;exact .inr (.inr hm)}
 
 have own:∀ {m o b},(m,o)∈Go.Proofs.YtfainocfaddbdaaGreat.setO ps.objs n (.mat s rows ((.osl k s (fun _=>0) (fun _=>((rows ()).getD (i ()) []).length),i)::hs))++[(k,Obj'.arr s (fun _=>(rows ()).getD (i ()) []))]->Own (vG β k (β.r n (i ()))) m o b ->
   (m=n/\Own β n (.mat s rows hs) b/\β.r n (i ())≠some b)\/(m≠n/\m≠k/\(m,o)∈ps.objs/\Own β m o b)\/(m=k/\β.r n (i ())=some b):=by
  intro m o b hm hb';rcases key hm with⟨rfl,rfl⟩|⟨h1,h2,h3⟩|⟨rfl,rfl⟩;{refine .inl ⟨rfl,?_⟩;rcases hb' with e|⟨j,hj,e⟩;{rw[xU hnk] at e;exact⟨.inl e,fun e'=>hM.ne _ _ hri e' e⟩};{have e:β.r m j=some b:=e;exact⟨.inr ⟨j,(hsub hj).1,e⟩,fun e'=>(hsub hj).2 (hM.inj _ _ _ (hsub hj).1 hri e e')⟩}};{exact .inr (.inl ⟨h1,h2,h3,x4 h2 hb'⟩)};{have:=yR (by intro _ hi;exact hi) hb';rw[yI] at this;exact .inr (.inr ⟨rfl,this⟩)}
 refine⟨h.dfr,h.sz,h.ld,fun t=>(h.tmp t).upd (xZ hf.1 t),⟨?_,?_,?_,?_⟩,?_,?_⟩;{rw[List.map_append,List.nodup_append,wU hnin];refine⟨h.obj.nd,by simp,?_⟩;intro x hx y hy e;simp at hy;subst hy e;obtain⟨⟨m,o⟩,h1,rfl⟩:=List.mem_map.1 hx;exact (yA hf.2 h1).1 rfl}
 ·intro m o hm;rcases key hm with⟨rfl,rfl⟩|⟨h1,h2,h3⟩|⟨rfl,rfl⟩
  ·refine⟨.inr ⟨b0,vs,T,by rw[xU hnk];exact hβ,hb,hsz,?_,fun j hj=>hrs j (hsub hj).1⟩,fun j j' b hj hj'=>hM.inj j j' b (hsub hj).1 (hsub hj').1,fun j b hj e=>by rw[xU hnk];exact hM.ne j b (hsub hj).1 e⟩;intro v k' hk';rcases List.mem_cons.1 hk' with e|hk'
   ·(cases e;refine⟨hil,?_⟩;rcases hrow with⟨e1,e2,aa,e3⟩|⟨b,cap,us,T',e1,e2,e3,e4,e5,_⟩);{rw[e3];exact .osl0 (by rw[yI];exact e1) rfl (by show ((rows ()).getD (i ()) []).length=0;rw[e2];rfl)}
    {rw[e2];have:=Rep.osl (w:=w) (S:=S) (β:=vG β k (β.r m (i ()))) (n:=k) (s:=s) (cap:=cap) (b:=b) (o:=fun _=>0) (len:=fun _=>((rows ()).getD (i ()) []).length) (by rw[yI];exact e1) e3 e4 (by simpa using e5);simpa using this}
   {exact⟨(hhs v k' hk').1,(hhs v k' hk').2.upd (j6 (yA hf.2 hmem).2 hk')⟩}
  {exact (h.obj.at_ m o h3).upd h2 (yA hf.2 h3).2};{rcases hrow with⟨e1,e2,_⟩|⟨b,cap,us,T',e1,_,e3,e4,e5,e6,e7⟩;{exact .inl ⟨by rw[yI];exact e1,e2⟩};{exact .inr ⟨b,us,T',by rw[yI];exact e1,e4,Nat.le_trans (Nat.mul_le_mul_right _ e3) e5,e6,e7⟩}}
 {intro m o b hm hb';rcases own hm hb' with⟨rfl,h1,_⟩|⟨_,_,h3,h4⟩|⟨rfl,h1⟩;{refine⟨fun j hS=>(h.obj.un _ _ b hmem h1).1 j hS |>.elim,(h.obj.un _ _ b hmem h1).2⟩};{exact h.obj.un m o b h3 h4};{refine⟨fun j hS=>(h.obj.un _ _ b hmem (.inr ⟨_,hri,h1⟩)).1 j hS |>.elim,(h.obj.un _ _ b hmem (.inr ⟨_,hri,h1⟩)).2⟩}}
 ·(intro m o m' o' b hm hm' hb1 hb2;rcases own hm hb1 with⟨rfl,h1,g1⟩|⟨h2,_,h3,h4⟩|⟨rfl,h1⟩ <;> rcases own hm' hb2 with⟨rfl,h1',g1'⟩|⟨h2',_,h3',h4'⟩|⟨rfl,h1'⟩);{rfl}
  {exact h.obj.inj _ _ _ _ b hmem h3' h1 h4'};{exact absurd h1' g1};{exact h.obj.inj _ _ _ _ b h3 hmem h4 h1'};{exact h.obj.inj _ _ _ _ b h3 h3' h4 h4'};{exact absurd (h.obj.inj _ _ _ _ b h3 hmem h4 (.inr ⟨_,hri,h1'⟩)) h2};{exact absurd h1 g1'};{exact absurd (h.obj.inj _ _ _ _ b h3' hmem h4' (.inr ⟨_,hri,h1⟩)) h2'};{rfl}
 {intro m o b hm hb';rcases own hm hb' with⟨rfl,h1,_⟩|⟨_,_,h3,h4⟩|⟨rfl,h1⟩;{exact h.own _ _ b hmem h1};{exact h.own m o b h3 h4};{exact h.own _ _ b hmem (.inr ⟨_,hri,h1⟩)}};{intro m o hm hb';rcases key hm with⟨rfl,rfl⟩|⟨h1,h2,h3⟩|⟨rfl,rfl⟩;{rw[xU hnk];exact h.keep _ _ hmem hb'};{rw[xU h2];exact h.keep m o h3 hb'};{have:=wG hf.2;omega}}
def updR (β:Bm) (n i:Nat) (x:Option Nat):Bm:=⟨β.o,fun m j=>if m=n/\j=i then x else β.r m j⟩
theorem rM {β:Bm}{n i:Nat}{x:Option Nat}:(updR β n i x).r n i=x:=by simp[updR]
theorem qL {β:Bm}{n i m j:Nat}{x:Option Nat}(h:m≠n\/j≠i):(updR β n i x).r m j=β.r m j:=by show (if m=n/\j=i then x else β.r m j)=β.r m j;rw[if_neg (by rintro⟨h1,h2⟩;rcases h with h|h <;> contradiction)]
theorem ObjAt.updR {n i:Nat}{x:Option Nat}{m:Nat}{o:Obj'}(h:ObjAt w S β m o)(hm:m≠n):ObjAt w S (updR β n i x) m o:=by
 have hp:∀ {v pv},Rep w S β v pv->Rep w S (Go.Proofs.YtfainocfaddbdaaGreat.updR β n i x) v pv:=fun h=>Rep.place (β:=β) (βf:=Go.Proofs.YtfainocfaddbdaaGreat.updR β n i x) (fun _=>rfl) h;cases o with
 |box cs =>
  obtain⟨b,vs,T,e1,e2,e3,e4⟩:=h;exact⟨b,vs,T,e1,e2,e3,fun j hj=>hp (e4 j hj)⟩
 |arr s els=>exact h| log s els=>exact h| lent s els=>exact h| mat s rows hs =>
  obtain⟨h1,h2,h3⟩:=h;refine⟨?_,fun j j' b hj hj'=>by rw[qL (.inl hm),qL (.inl hm)];exact h2 j j' b hj hj',fun j b hj=>by rw[qL (.inl hm)];exact h3 j b hj⟩;rcases h1 with h1|⟨b,vs,T,e1,e2,e3,e4,e5⟩;{exact .inl h1};{exact .inr ⟨b,vs,T,e1,e2,e3,fun v k hk=>⟨(e4 v k hk).1,hp (e4 v k hk).2⟩,fun j hj=>by rw[qL (.inl hm)];exact e5 j hj⟩}
theorem Sim.rowIn {objs:List (Nat×Obj')}(h:Sim w0 S0 K0 N τ objs a w S β){n s:Nat}{rows:Unit->List (List (List D))}{hs1 hs2:List (PV×(Unit->Nat))}{v0:PV}{i:Unit->Nat}(hmem:(n,Obj'.mat s rows (hs1++(v0,i)::hs2))∈objs) {x:Option Nat} {els:List (List D)} (hx:∀ b vs T,β n=some b->w.heap[b]?=some (.cells vs T (0,0))->RowIn w S x (vs.getD (i ()) undef) s els) (hfree:∀ b,x=some b->(∀ m o,(m,o)∈objs->¬Own β m o b)/\(w0.heap.size<=b\/K0 b)/\b<w.heap.size/\∀ j,¬S b j):Sim w0 S0 K0 N τ (Go.Proofs.YtfainocfaddbdaaGreat.setO objs n (.mat s (fun _=>(rows ()).set (i ()) els) (hs1++hs2))) a w S (updR β n (i ()) x):=by
 have hM:MatAt w S β n s rows (hs1++(v0,i)::hs2):=h.obj.at_ n _ hmem;have hnin:n∈objs.map Prod.fst:=List.mem_map.2 ⟨_,hmem,rfl⟩;have hp:∀ {v pv},Rep w S β v pv->Rep w S (updR β n (i ()) x) v pv:=fun h=>Rep.place (β:=β) (βf:=updR β n (i ()) x) (fun _=>rfl) h;have hin:∀ {v k},(v,k)∈hs1++hs2->(v,k)∈hs1++(v0,i)::hs2:=fun hk=>by rcases List.mem_append.1 hk with h'|h';{exact List.mem_append_left _ h'};{exact List.mem_append_right _ (List.mem_cons_of_mem _ h')}
 obtain⟨b0,vs,T,hβ,hb,hsz,hhs,hrs⟩:∃ (b:Nat) (vs:Array Value) (T:TypeId),β n=some b/\w.heap[b]?=some (.cells vs T (0,0))/\(rows ()).length<=vs.size /\
   (∀ v k,(v,k)∈hs1++(v0,i)::hs2->k ()<(rows ()).length/\Rep w S β (vs.getD (k ()) undef) v)/\∀ j,x9 (.mat s rows (hs1++(v0,i)::hs2)) j->RowIn w S (β.r n j) (vs.getD j undef) s ((rows ()).getD j []):=by
  rcases hM.pl with⟨_,_,h2⟩|h2;{simp at h2};{exact h2}
 have hil:i ()<(rows ()).length:=(hhs v0 i (List.mem_append_right _ List.mem_cons_self)).1;have hrow:∀ {j},x9 (.mat s (fun _=>(rows ()).set (i ()) els) (hs1++hs2)) j->j≠i ()->x9 (.mat s rows (hs1++(v0,i)::hs2)) j:=by intro j hj hne;refine⟨by simpa using hj.1,fun v k hk=>?_⟩;rcases List.mem_append.1 hk with h'|h';{exact hj.2 v k (List.mem_append_left _ h')};{rcases List.mem_cons.1 h' with e|h';{cases e;exact fun e=>hne e.symm};{exact hj.2 v k (List.mem_append_right _ h')}}
 have key:∀ {m o},(m,o)∈Go.Proofs.YtfainocfaddbdaaGreat.setO objs n (.mat s (fun _=>(rows ()).set (i ()) els) (hs1++hs2))->(m=n/\o=.mat s (fun _=>(rows ()).set (i ()) els) (hs1++hs2))\/(m≠n/\(m,o)∈objs):=fun hm=>xK h.obj.nd hnin hm;have own:∀ {m o b},(m,o)∈Go.Proofs.YtfainocfaddbdaaGreat.setO objs n (.mat s (fun _=>(rows ()).set (i ()) els) (hs1++hs2))->Own (updR β n (i ()) x) m o b->(m=n/\x=some b)\/∃ o',(m,o')∈objs/\Own β m o' b/\(m≠n->o'=o):=by intro m o b hm hb';rcases key hm with⟨rfl,rfl⟩|⟨h1,h2⟩;{rcases hb' with e|⟨j,hj,e⟩;{exact .inr ⟨_,hmem,.inl e,fun h=>absurd rfl h⟩};{by_cases hji:j=i ();{subst hji;rw[rM] at e;exact .inl ⟨rfl,e⟩};{rw[qL (.inr hji)] at e;exact .inr ⟨_,hmem,.inr ⟨j,hrow hj hji,e⟩,fun h=>absurd rfl h⟩}}};{refine .inr ⟨o,h2,?_,fun _=>rfl⟩;rcases hb' with e|⟨j,hj,e⟩;{exact .inl e};{rw[qL (.inl h1)] at e;exact .inr ⟨j,hj,e⟩}}
 refine⟨h.dfr,h.sz,h.ld,fun t=>hp (h.tmp t),⟨by rw[wU hnin];exact h.obj.nd,?_,?_,?_⟩,?_,?_⟩
 ·intro m o hm;rcases key hm with⟨rfl,rfl⟩|⟨h1,h2⟩
  ·refine⟨.inr ⟨b0,vs,T,hβ,hb,by simpa using hsz,fun v k hk=>⟨by simpa using (hhs v k (hin hk)).1,hp (hhs v k (hin hk)).2⟩,fun j hj=>?_⟩,?_,?_⟩
   ·by_cases hji:j=i ()
    ·(subst hji;rw[rM];have:((rows ()).set (i ()) els).getD (i ()) []=els:=by simp[List.getD_eq_getElem?_getD,hil]);show RowIn w S x (vs.getD (i ()) undef) s (((rows ()).set (i ()) els).getD (i ()) [])
     rw[this];exact hx b0 vs T hβ hb
    ·(rw[qL (.inr hji)];have:((rows ()).set (i ()) els).getD j []=(rows ()).getD j []:=by rw[List.getD_eq_getElem?_getD,List.getElem?_set,if_neg (fun e=>hji e.symm),<-List.getD_eq_getElem?_getD]);show RowIn w S _ (vs.getD j undef) s (((rows ()).set (i ()) els).getD j [])
     rw[this];exact hrs j (hrow hj hji)
   ·(intro j j' b hj hj' e e';by_cases hji:j=i () <;> by_cases hji':j'=i ());{rw[hji,hji']}
    {subst hji;rw[rM] at e;rw[qL (.inr hji')] at e';exact absurd (.inr ⟨j',hrow hj' hji',e'⟩) ((hfree b e).1 m _ hmem)};{subst hji';rw[rM] at e';rw[qL (.inr hji)] at e;exact absurd (.inr ⟨j,hrow hj hji,e⟩) ((hfree b e').1 m _ hmem)};{rw[qL (.inr hji)] at e;rw[qL (.inr hji')] at e';exact hM.inj j j' b (hrow hj hji) (hrow hj' hji') e e'}
   {intro j b hj e e';by_cases hji:j=i ();{subst hji;rw[rM] at e;exact (hfree b e).1 m _ hmem (.inl e')};{rw[qL (.inr hji)] at e;exact hM.ne j b (hrow hj hji) e e'}}
  {exact (h.obj.at_ m o h2).updR h1}
 {intro m o b hm hb';rcases own hm hb' with⟨rfl,e⟩|⟨o',h1,h2,h3⟩;{exact⟨fun j hS=>absurd hS ((hfree b e).2.2.2 j),(hfree b e).2.2.1⟩};{refine⟨fun j hS=>?_,(h.obj.un m o' b h1 h2).2⟩;have h4:=(h.obj.un m o' b h1 h2).1 j hS;by_cases hmn:m=n;{subst hmn;have:=zJ8 h.obj.nd h1 hmem;rw[this] at h4;exact h4.elim};{rw[<-h3 hmn];exact h4}}}
 ·(intro m o m' o' b hm hm' hb1 hb2;rcases own hm hb1 with⟨rfl,e⟩|⟨o1,h1,h2,_⟩ <;> rcases own hm' hb2 with⟨rfl,e'⟩|⟨o2,h1',h2',_⟩);{rfl}
  {exact absurd h2' ((hfree b e).1 _ _ h1')};{exact absurd h2 ((hfree b e').1 _ _ h1)};{exact h.obj.inj _ _ _ _ b h1 h1' h2 h2'}
 {intro m o b hm hb';rcases own hm hb' with⟨rfl,e⟩|⟨o',h1,h2,_⟩;{exact (hfree b e).2.1};{exact h.own m o' b h1 h2}};{intro m o hm hb';rcases key hm with⟨rfl,rfl⟩|⟨h1,h2⟩;{exact h.keep _ _ hmem hb'};{exact h.keep m o h2 hb'}}
theorem dU:∀ {l:List (Nat×Obj')} {n m:Nat} {o:Obj'},(m,o)∈l->m≠n->(m,o)∈xC l n
 |(u,v)::r,n,m,o,hm,hne=>by
  simp only[xC];cases hu:nqb u n with
  |true =>
   rcases List.mem_cons.1 hm with e|hm;{cases e;exact absurd (yC hu) hne};{exact dU hm hne}
  |false =>
   rcases List.mem_cons.1 hm with e|hm;{cases e;exact List.mem_cons_self};{exact List.mem_cons_of_mem _ (dU hm hne)}
theorem dS (f:PV->PV):∀ {l:List (Nat×Obj')} {n:Nat} {o:Obj'},(n,o)∈l->(n,xD f o)∈yS f l
 |(u,v)::r,n,o,hm=>by rcases List.mem_cons.1 hm with e|hm;{cases e;cases v <;> exact List.mem_cons_self};{have:=dS f hm;cases v <;> exact List.mem_cons_of_mem _ this}
theorem Sim.unfocus {ps:PS}(h:Sim w0 S0 K0 N (zB ps.tmps) ps.objs a w S β){n k:Nat}{hs1 hs2:List (PV×(Unit->Nat))}{s:Nat}{rows:Unit->List (List (List D))}{i o len:Unit->Nat}{els:Unit->List (List D)}(ho:z7 ps.objs n=some (.mat s rows (hs1++(.osl k s o len,i)::hs2)))(hk:z7 ps.objs k=some (.arr s els))(hne:nqb n k=false)(h0:o ()=0/\len ()=(els ()).length):Sim w0 S0 K0 N (zB (xY (scr k) ps.tmps)) (Go.Proofs.YtfainocfaddbdaaGreat.setO (yS (scr k) (xC ps.objs k)) n (.mat s (fun _=>(rows ()).set (i ()) (els ())) (qH (scr k) (hs1++hs2)))) a w S (updR β n (i ()) (β k)):=by
 have hnk:n≠k:=fun e=>by subst e;simp at hne
 have hmem:=yW ho;have hmk:=yW hk;have hR:RowAt w S β k s els:=h.obj.at_ k _ hmk;have hM:MatAt w S β n s rows (hs1++(.osl k s o len,i)::hs2):=h.obj.at_ n _ hmem;have hin:(n,Obj'.mat s rows (qH (scr k) hs1++(scr k (.osl k s o len),i)::qH (scr k) hs2))∈yS (scr k) (xC ps.objs k):=by have:=dS (scr k) (dU hmem hnk);simp only[xD,bR,qH] at this;exact this
 rw[bR];refine Sim.rowIn (h.drop k) hin ?_ ?_
 ·intro b vs T hb hw;rcases hM.pl with⟨_,_,h2⟩|⟨b',vs',T',e1,e2,_,e4,_⟩;{simp at h2}
  ·(rw[hb] at e1;cases e1;rw[hw] at e2;cases e2;have hr:=(e4 _ i (List.mem_append_right _ List.mem_cons_self)).2;generalize vs.getD (i ()) undef=v at hr ⊢;rcases hR with⟨e5,e6⟩|⟨bk,us,Tk,e5,e6,e7,e8,e9⟩);{refine .inl ⟨e5,e6,?_⟩;rcases w8 hr with⟨_,_,_,aa,hv⟩|⟨b1,cap,us1,T1,g1,_⟩;{exact⟨aa,hv⟩};{rw[e5] at g1;cases g1}}
   {rcases w8 hr with⟨g1,_⟩|⟨b1,cap,us1,T1,g1,g3,g4,g5,hv⟩;{rw[e5] at g1;cases g1};{rw[e5] at g1;cases g1;rw[e6] at g4;cases g4;rw[h0.1] at hv g5;refine .inr ⟨bk,cap,us,Tk,e5,by rw[hv,<-h0.2];simp,by rw[<-h0.2];exact g3,e6,by simpa using g5,e8,e9⟩}}
 {intro b hb;have hob:Own β k (.arr s els) b:=.inl hb;refine⟨fun m o' hm hb'=>?_,h.own k _ b hmk hob,(h.obj.un k _ b hmk hob).2,fun j hS=>(h.obj.un k _ b hmk hob).1 j hS⟩;obtain⟨o'',h1,rfl⟩:=xO _ hm;obtain⟨h3,h4⟩:=xP h1;exact h4 (h.obj.inj _ _ _ _ b h3 hmk (wI hb') hob)}
theorem Wk.sound {ps ps':PS}(k:Wk ps ps'):∀ {S β},Sim w0 S0 K0 N (zB ps.tmps) ps.objs a w S β->∃ S' β',Sim w0 S0 K0 N (zB ps'.tmps) ps'.objs a w S' β':=by
 induction k with
 |refl ps=>intro S β h;exact⟨S,β,h⟩| le ht ho hn=>intro S β h;exact⟨S,β,h.le ht ho hn⟩| frz n ho hc hT hO=>intro S β h;exact h.frz ho hc hT hO| lend n t ho hr hf=>intro S β h;exact h.lend ho hr hf| pub n ho hr=>intro S β h;exact h.pub ho hr| fresh n s hf=>intro S β h;exact⟨S,vG β n none,h.fresh hf⟩| drop n=>intro S β h;exact⟨S,β,h.drop n⟩| adoptT n s t hf ht =>
  intro S β h;refine⟨S,vG β n none,(h.fresh hf).setT ?_⟩;have:=h.tmp t;obtain⟨⟨av,hv⟩,_⟩:=lM ht this;rw[hv];exact .osl0 yI rfl rfl
 |adoptB n s m j hf ho hj=>intro S β h;exact h.adopt (fun β' h=>.inl ⟨h,rfl⟩) (fun _ hi=>hi) hf ho hj| adoptM n s m j hf ho hj=>intro S β h;exact h.adopt (fun β' h=>⟨.inl ⟨h,rfl,rfl⟩,fun i j b hi=>absurd hi.1 (by simp),fun i b hi=>absurd hi.1 (by simp)⟩) (fun _ hi=>absurd hi.1 (by simp)) hf ho hj| focus n k i ho hf hi=>intro S β h;exact⟨S,_,h.focus ho hf hi⟩| unfocus n k hs1 hs2 ho hk hne h0=>intro S β h;exact⟨S,_,h.unfocus ho hk hne h0⟩| trans _ _ ih1 ih2=>intro S β h;obtain⟨S',β',h'⟩:=ih1 h;exact ih2 h'
theorem zHA (h:Sim w0 S0 K0 N τ objs a w S β){pv:PV}{v:Value}{K:PV->Prop}(hl:ldV objs pv K)(hr:Rep w S β v pv):∃ pv',K pv'/\Rep w S β v pv':=by
 unfold ldV at hl;cases hn:lnt objs pv with
 |false=>rw[hn] at hl;exact⟨pv,hl,hr⟩| true =>
  rw[hn] at hl;rcases hl.h with hK|⟨n,s,els,h1,h2,h3⟩;{exact⟨pv,hK,hr⟩};{have hat:=h.obj.at_ n _ (yW h1);exact⟨_,h3,frz2 (S':=S) (o:=.lent s els) ⟨fun _ _ x=>x,fun b hb i hi=>hat.2 b hb i hi,hat,rfl⟩ hr h2⟩}
theorem tE {o:Oper}{K:PV->Prop}{Km:Act->World->Prop}{Q:Exit->Act->World->Prop}(h:Sim w0 S0 K0 N τ objs a w S β)(hs:sop objs o.op (ev τ) K) (hk:∀ pv w' S' v,K pv->Leads w S vD w' S'->Rep w' S' β v pv->Km (a.put o.dst v) w'):o.wp Pg a w Km Q:=by
 have he:∀ x,Rep w S β (a.eval x) (ev τ x):=fun x=>h.eval x;have hrefl:Leads w S vD w S:=Leads.refl h.ld.bnd;have fin:∀ pv v,(execOp a.eval o).run Pg w=.ok (.value v) w->K pv->Rep w S β v pv->o.wp Pg a w Km Q:=fun pv v h1 h2 h3=>uJ h1 (hk pv w S v h2 hrefl h3);unfold sop at hs;split at hs;{rename_i x hop;exact fin _ _ (by simp[execOp,hop]) hs (he x)};{rename_i x hop;exact fin _ _ (by simp[execOp,hop]) hs (he x)}
 ·rename_i c x y hop;obtain⟨b,hb,ht,hf⟩:=mH (he c) hs;cases b with
  |true=>exact fin _ _ (by simp[execOp,hop,hb,asBool]) (ht rfl) (he x)| false=>exact fin _ _ (by simp[execOp,hop,hb,asBool]) (hf rfl) (he y)
 {rename_i t parts hop;split at hs;{rename_i n fs z ht;split at hs;{rename_i cs hf;obtain⟨vs,h1,h2⟩:=zAN ht he hf;exact fin _ _ (by simp[execOp,hop,h1]) hs (.agg h2.1 h2.2)};{exact hs.elim}};{rename_i len n ag z ht;split at hs;{rename_i cs hf;obtain⟨vs,h1,h2⟩:=eV ht he hf;exact fin _ _ (by simp[execOp,hop,h1]) hs (.agg h2.1 h2.2)};{exact hs.elim}};{exact hs.elim}}
 ·rename_i t len parts hop;split at hs
  ·rename_i n b z ht;split at hs
   ·rename_i els hf;cases hc:(nle (len*n) 1000&&c6 els) with
    |false=>simp[hc] at hs| true =>
     simp only[hc,cond_true] at hs;simp only[Bool.and_eq_true] at hc;obtain⟨w',S',v,h1,h2,h3⟩:=lJ ht h.ld.bnd he hf (bO hc.1) hc.2;exact uJ (by simp[execOp,hop,h1]) (hk _ _ _ _ hs h2 h3)
   {exact hs.elim}
  {exact hs.elim}
 ·rename_i t x hop;split at hs;{rename_i cs off hx;have hr:=he x;rw[hx] at hr;obtain⟨b,o',vals,hS,hv,hf,hc,hrr⟩:=gY hr;obtain⟨pv,val,h1,h2,h3⟩:=dO (w:=w) (S:=S) (β:=β) hs vals hc (zAO hf hrr);exact fin pv val (by simp[execOp,hop,hv,h2]) h1 h3};{rename_i n off hx;split at hs;{rename_i cs ho;have hr:=he x;rw[hx] at hr;obtain⟨b,hβ,hv⟩:=uF hr;obtain⟨b',vs,T,hβ',hb,hsz,hrr⟩:=zA5 h ho;rw[hβ] at hβ';cases hβ';obtain⟨pv,val,h1,h2,h3⟩:=dO (w:=w) (S:=S) (β:=β) (b:=b) (o:=0) hs (fun j=>vs.getD j undef) (fun j hj=>by rw[Nat.zero_add];exact vM hb j (by omega)) hrr;obtain⟨pv',h1',h3'⟩:=zHA h h1 h3;exact fin pv' val (by rw[Nat.zero_add] at h2;simp[execOp,hop,hv,h2]) h1' h3'};{exact hs.elim}}
  ·rename_i n s i off hx;split at hs
   ·rename_i s' els ho;cases hss:nqb s s' with
    |false=>simp[hss] at hs| true =>
     (simp only[hss,cond_true] at hs;have:=yC hss;subst this;obtain⟨c,hcf,hcl,hck,hK⟩:=hs.h;have hr:=he x;rw[hx] at hr;obtain⟨b,hβ,hv⟩:=qG hr;have hlt:i ()<(els ()).length:=by rcases Nat.lt_or_ge (i ()) (els ()).length with h'|h';{exact h'};{rw[List.getElem?_eq_none h'] at hck;cases hck});rcases h.obj.at_ n _ (yW ho) with⟨hn,he0⟩|⟨b',vs,T,hβ',hb,hsz,hwid,hrr⟩;{rw[he0] at hlt;simp at hlt}
     ·(rw[hβ] at hβ';cases hβ';have hg:(els ()).getD (i ()) []=xM c:=by rw[List.getD_eq_getElem?_getD,hck];rfl);obtain⟨pv,val,h1,h2,h3⟩:=dO (w:=w) (S:=S) (β:=β) (b:=b) (o:=i ()*s) hK (fun j=>vs.getD (i ()*s+j) undef)
       (fun j hj=>vM hb _ (by
        have:i ()*s+s<=(els ()).length*s:=by
         calc i ()*s+s=(i ()+1)*s:=by rw[Nat.add_mul];omega
          _<=_:=Nat.mul_le_mul_right _ hlt
        omega))
       (fun j hj=>by have:=(hrr (i ()) j hlt (by omega)).1;rw[hg,uU] at this;exact .c (y6 rfl hcf j) this)
      exact fin pv val (by simp[execOp,hop,hv,h2]) h1 h3
   ·rename_i sm rows hs0 ho;cases hss:(nqb s 1&&nqb off 0) with
    |false=>simp[hss] at hs| true =>
     simp only[hss] at hs;simp only[Bool.and_eq_true] at hss;have e1:=yC hss.1;have e2:=yC hss.2;subst e1 e2;obtain⟨v0,k0,hk0,hki,hK⟩:=hs.h;have hr:=he x;rw[hx] at hr;obtain⟨b,hβ,hv⟩:=qG hr;rcases (show MatAt w S β n sm rows hs0 from h.obj.at_ n _ (yW ho)).pl with⟨_,_,hn⟩|⟨b',vs,T,hβ',hb,hsz,hhs,_⟩;{rw[hn] at hk0;simp at hk0}
     ·rw[hβ] at hβ';cases hβ';obtain⟨hlt,hrp⟩:=hhs v0 k0 hk0;obtain⟨pv,val,h1,h2,h3⟩:=dO (w:=w) (S:=S) (β:=β) (b:=b) (o:=i ()) hK (fun j=>vs.getD (i ()+j) undef)
       (fun j hj=>vM hb _ (by simp only[List.length_cons,List.length_nil] at hj;omega))
       (fun j hj=>by
        (simp only[List.length_cons,List.length_nil] at hj;have:j=0:=by omega);subst this
        rw[hki] at hrp;exact hrp)
      exact fin pv val (by rw[Nat.add_zero] at h2;simp[execOp,hop,hv,h2]) h1 h3
   {exact hs.elim}
  {exact hs.elim}
 {rename_i bop t x y yt hop;obtain⟨pv,val,h1,h2,h3⟩:=zEI (ox:=x) (oy:=y) (fun c e=>by rw[e];rfl) (he x) (he y) hs;exact fin pv val (by simp only[execOp,hop,Sem.run_bind] at h2 ⊢;simp[h2]) h1 h3};{rename_i op t x hop;have hr:=he x;split at hs;{rename_i hx;rw[hx] at hr;exact fin _ (.bool false) (by simp[execOp,hop,Op.unary,tM hr]) hs (.c rfl (.bool false))};{rename_i hx;rw[hx] at hr;exact fin _ (.bool true) (by simp[execOp,hop,Op.unary,tN hr]) hs (.c rfl (.bool true))};{rename_i b hx;rw[hx] at hr;exact fin _ (.bool (!(b ()))) (by simp[execOp,hop,Op.unary,gZ hr]) hs (bG _)};{rename_i b hx;rw[hx] at hr;exact fin _ (.bool (b ())) (by simp[execOp,hop,Op.unary,gF hr]) hs (dM _)};{rename_i k n hx;rw[hx] at hr;obtain⟨pv,h1,h2⟩:=aV (w:=w) (S:=S) (β:=β) hs;exact fin pv _ (by simp[execOp,hop,Op.unary,xV hr,Op.intArith]) h1 h2};{exact hs.elim}}
 ·rename_i src dst x hop;cases hno:(ty src).isNo with
  |true=>simp[hno] at hs| false =>
   simp only[hno,cond_false] at hs;split at hs;{rename_i k z k' n ht hx;have hr:=he x;rw[hx] at hr;obtain⟨d,hd⟩:=zMK hno;obtain⟨i,d',zv,_,h2,_,_,_,_,_,h8,_⟩:=oJ ht;have h8:=h8 k z rfl;subst h8;refine fin _ _ ?_ hs (gX k (fun _=>nx k (n ())));cases d <;> simp[execOp,hop,convert,run_underlying hd,run_underlying h2,xV hr,Conv.intToInt,nx]};{rename_i els ht hx;have hr:=he x;rw[hx] at hr;obtain⟨⟨e,h1,h2⟩,h3,ns,h4,h5⟩:=hs.h;obtain⟨a,ln,cap,hv,hb⟩:=zEH h4 (gW hr);exact fin _ (.string (nV ns)) (by simp[execOp,hop,hv,run_convert_bytes_string w src dst e a ln cap h1 h2 h3,hb]) h5 (.c rfl (.str _))};{exact hs.elim}
 {rename_i t x i hop;split at hs;{rename_i n fs z ht;split at hs;{rename_i off sz ag hi;have hr:=he x;split at hs;{rename_i m o' hx;rw[hx] at hr;obtain⟨b,hβ,hv⟩:=uF hr;exact fin _ _ (by simp[execOp,hop,hv,fZ ht hi]) hs (.ptr hβ)};{rename_i m s j o' hx;rw[hx] at hr;obtain⟨b,hβ,hv⟩:=qG hr;exact fin _ (.pointer (some ⟨b,j ()*s+(o'+off),none⟩)) (by simp[execOp,hop,hv,fZ ht hi,Nat.add_assoc]) hs (.aptr hβ)};{rename_i cs o' hx;rw[hx] at hr;obtain⟨b,oo,vals,hS,hv,hf,hc,hrr⟩:=gY hr;exact fin _ (.pointer (some ⟨b,oo+(o'+off),none⟩)) (by simp[execOp,hop,hv,fZ ht hi,Nat.add_assoc]) hs (.dptr vals hS hf hc hrr)};{exact hs.elim}};{exact hs.elim}};{exact hs.elim}}
 ·rename_i t x i hop;split at hs
  ·rename_i n fs z ht;split at hs
   ·rename_i off sz ag hi;obtain⟨inf,fields,zs,h1,h2,h3,h4,h5,h6,h7,h8⟩:=n6 ht;rw[h6,List.getElem?_map] at hi;obtain⟨f,hf,hfe⟩:=Option.map_eq_some_iff.1 hi;cases ag with
    |false =>
     simp only at hs;simp only[Prod.mk.injEq] at hfe;obtain⟨q1,q2,q3⟩:=hfe;split at hs
     ·rename_i cs hx;have hr:=he x;rw[hx] at hr;cases hle:(nqb sz 1&&nlt off cs.length) with
      |false=>rw[hle] at hs;exact hs.elim| true =>
       (rw[hle] at hs;simp only[Bool.and_eq_true] at hle;have hs1:=yC hle.1;have hlt:off<cs.length:=by have:=hle.2;simp[nlt] at this;omega);obtain⟨vs,hv,hl,hrr⟩:=vL hr
       (obtain⟨j,hj,hjs⟩:=vE (t:=f.type) (h8 f (List.mem_of_getElem? hf));obtain⟨fields',hu',hU⟩:=zML ht;rw[h2] at hu';cases hu';obtain⟨d,hd⟩:=Option.isSome_iff_exists.1 (hU f (List.mem_of_getElem? hf));have hd':=dK hd w;rw[q3] at hd';have hfa:fields[i]?=some f:=by rw[<-hf,Array.getElem?_toList]);have hlv:off<vs.size:=by omega
       (refine fin _ (vs.getD off undef) ?_ hs (hrr off (by omega));have hj1:j.size=1:=by omega);simp[execOp,hop,hv,Instr.field,run_underlying h2,hfa,asAgg,part,hd',wR hj,hj1,q1,hlv]
     {exact hs.elim}
    |true =>
     simp only at hs;simp only[Prod.mk.injEq] at hfe;obtain⟨q1,q2,q3⟩:=hfe;split at hs
     ·rename_i cs hx;have hr:=he x;rw[hx] at hr;cases hle:nle (off+sz) cs.length with
      |false=>simp[hle] at hs| true =>
       (simp only[hle] at hs;have hle:off+sz<=cs.length:=by simp[nle] at hle;omega);obtain⟨vs,hv,hl,hrr⟩:=vL hr
       obtain⟨j,hj,hjs⟩:=vE (t:=f.type) (h8 f (List.mem_of_getElem? hf));obtain⟨d,hd⟩:∃ d,Pg.underlying f.type=some d:=by
        unfold u7 at q3;cases hu:Pg.underlying f.type with
        |none=>rw[hu] at q3;cases q3
        |some d=>exact⟨d,rfl⟩
       (have hd':=dK hd w;rw[q3] at hd';have hfa:fields[i]?=some f:=by rw[<-hf,Array.getElem?_toList]);refine fin _ (.agg (vs.extract off (off+sz))) ?_ hs (.agg ?_ ?_)
       {simp[execOp,hop,hv,Instr.field,run_underlying h2,hfa,asAgg,part,hd',wR hj,hjs,q1,q2]};{simp;omega}
       ·(intro k hk;have hk':k<sz:=by simp at hk;omega);have:=hrr (off+k) (by omega)
        (have e1:(vs.extract off (off+sz)).getD k undef=vs.getD (off+k) undef:=by simp only[Array.getD_eq_getD_getElem?];rw[Array.getElem?_extract,if_pos (by omega)]);have e2:((cs.drop off).take sz).getD k .any=cs.getD (off+k) .any:=by simp only[List.getD_eq_getElem?_getD];rw[List.getElem?_take,if_pos hk',List.getElem?_drop]
        rw[e1,e2];exact this
     {exact hs.elim}
   {exact hs.elim}
  {exact hs.elim}
 ·rename_i t x i hop;split at hs;{rename_i n b z els k kv ht hx hi;obtain⟨inf,el,j,zv,h1,h2,h3,h4,h5,h6,h7,h8,h9,h10,h11,h12⟩:=w5 ht;have hr:=he x;have hri:=he i;rw[hx] at hr;rw[hi] at hri;obtain⟨hk0,c,hcf,hcl,hck,hK⟩:=hs.h;obtain⟨bb,oo,cap,hv,hlt,hrep⟩:=zLH (β:=β) (gW hr) h10 hcf hcl hck;refine fin _ _ ?_ hK hrep;have:=fY (w:=w) h4 h5 bb oo (els ()).length cap k (kv ()) hk0 (by omega);rw[h7] at this;simp[execOp,hop,hv,xV hri,this]}
  ·rename_i n b z m s o' len k kv ht hx hi;obtain⟨inf,el,j,zv,h1,h2,h3,h4,h5,h6,h7,h8,h9,h10,h11,h12⟩:=w5 ht;have hr:=he x;have hri:=he i;rw[hx] at hr;rw[hi] at hri;cases hss:nqb n s with
   |false=>simp[hss] at hs| true =>
    simp only[hss,cond_true] at hs;have:=yC hss;subst this;obtain⟨hrg,hK⟩:=hs;rcases w8 hr with⟨_,_,hl0,_⟩|⟨bb,cap,vs,T,hβ,hlc,hb,hsz,hv⟩;{have:=hrg.lo;have:=hrg.hi;omega};{refine fin _ _ ?_ hK (.aptr hβ);have:=fY (w:=w) h4 h5 bb (o' ()*n) (len ()) cap k (kv ()) hrg.lo hrg.hi;rw[h7] at this;simp[execOp,hop,hv,xV hri,this,Nat.add_mul]}
  {rename_i len n ag z m o' k kv ht hx hi;obtain⟨inf,el,zs,h1,h2,h3,h4,h5,h6,h7,h8,h8',h8'',h9⟩:=sH ht;have hr:=he x;have hri:=he i;rw[hx] at hr;rw[hi] at hri;obtain⟨jj,hj1,hj2,hK⟩:=hs.h;obtain⟨b,hβ,hv⟩:=uF hr;obtain⟨j,hj,hjs⟩:=vE (t:=el) (by omega);refine fin _ _ ?_ hK (.ptr hβ);have:=rU (w:=w) h2 hj b o' k (kv ()) (by omega) (by omega);rw[hjs,h6,hj1] at this;simp[execOp,hop,hv,xV hri,hj1,this]};{exact hs.elim}
 ·rename_i t x i hop;split at hs
  ·rename_i len z cs k kv ht hx hi;obtain⟨inf,el,zs,h1,h2,h3,h4,h5,h6,h7,h8,h8',h8'',h9⟩:=sH ht;have hr:=he x;have hri:=he i;rw[hx] at hr;rw[hi] at hri;cases hll:nqb len cs.length with
   |false=>simp[hll] at hs| true =>
    (simp only[hll,cond_true] at hs;have hll:=yC hll;obtain⟨jj,hj1,hj2,hK⟩:=hs.h;obtain⟨vs,hv,hl,hrr⟩:=vL hr;obtain⟨j,hj,hjs⟩:=vE (t:=el) (by omega);have hs1:j.size=1:=by omega);obtain⟨d,hd⟩:=Option.isSome_iff_exists.1 h8''
    (have hlt:jj<vs.size:=by omega);refine fin _ (vs.getD jj undef) ?_ hK (hrr jj (by omega))
    have hd':=dK hd w;rw[h7] at hd';simp[execOp,hop,hv,xV hri,hj1,Instr.index,asIntOf,run_underlying h2,hj2,wR hj,hs1,part,hd',hlt]
  {exact hs.elim}
 ·rename_i x i hop;have hr:=he x;split at hs
  ·rename_i vs hx;rw[hx] at hr;cases hlt:nlt i vs.length with
   |false=>simp[hlt] at hs| true =>
    (simp only[hlt,cond_true] at hs;have hlt:i<vs.length:=by simp[nlt] at hlt;omega);obtain⟨us,hv,hl,hrr⟩:=kS hr
    (have hlu:i<us.size:=by omega);exact fin _ (us.getD i undef) (by simp[execOp,hop,hv,Instr.extract,hlu]) hs (hrr i hlt)
  {exact hs.elim}
 ·rename_i t x lo hi hop;have hr:=he x;split at hs;{rename_i n b z els ht hx;obtain⟨inf,el,j,zv,h1,h2,h3,h4,h5,h6,h7,h8,h9,h10,h11,h12⟩:=w5 ht;rw[hx] at hr;split at hs;{rename_i l hh hl hhh;obtain⟨hok,hw,hK⟩:=hs;have hl':=jF he hl;have hh':=jF he hhh;have:=hok.lo;have:=hok.mid;have:=hok.hi;obtain⟨aa,cap,hv,hcap,hrep⟩:=zDZ (gW hr) hw.h (l:=(l ()).toNat) (h:=(hh ()).toNat) (by omega) (by omega);refine fin _ _ ?_ hK (.c rfl hrep);have:=f9 (w:=w) (ρ:=a.eval) (a:=aa) h4 h5 hcap hok.lo hok.mid hok.hi (hl'.imp (fun h=>⟨h.1,by rw[h.2]⟩) id) (hh'.imp (fun h=>⟨h.1,by rw[h.2]⟩) id);rw[h7] at this;simp only[execOp,hop,hv,Sem.run_bind,this,Result.andThen_ok,Sem.run_pure]};{exact hs.elim}}
  ·rename_i n b z m s o' len ht hx;obtain⟨inf,el,j,zv,h1,h2,h3,h4,h5,h6,h7,h8,h9,h10,h11,h12⟩:=w5 ht;rw[hx] at hr;split at hs
   ·rename_i l hh hl hhh;cases hss:nqb n s with
    |false=>simp[hss] at hs| true =>
     simp only[hss,cond_true] at hs;have:=yC hss;subst this;obtain⟨hok,hne,hK⟩:=hs;have hl':=jF he hl;have hh':=jF he hhh;have:=hok.lo;have:=hok.mid;have:=hok.hi;have:=hne.lt;rcases w8 hr with⟨_,_,hl0,_⟩|⟨bb,cap,vs,T,hβ,hlc,hb,hsz,hv⟩;{omega}
     ·refine fin _ _ ?_ hK (.osl (cap:=cap-(l ()).toNat) hβ (by omega) hb ?_);{have:=f9 (w:=w) (ρ:=a.eval) (a:=some ⟨bb,o' ()*n,none⟩) h4 h5 hlc hok.lo hok.mid hok.hi (hl'.imp (fun h=>⟨h.1,by rw[h.2]⟩) id) (hh'.imp (fun h=>⟨h.1,by rw[h.2]⟩) id);rw[h7,if_neg (by omega)] at this;simp only[Option.map_some,uB,<-Nat.add_mul] at this;simp only[execOp,hop,hv,Sem.run_bind,this,Result.andThen_ok,Sem.run_pure]}
      ·(have:o' ()+(l ()).toNat+(cap-(l ()).toNat)=o' ()+cap:=by omega);rw[this];exact hsz
   {exact hs.elim}
  ·rename_i n b z ht hx;obtain⟨inf,el,j,zv,h1,h2,h3,h4,h5,h6,h7,h8,h9,h10,h11,h12⟩:=w5 ht;rw[hx] at hr;have hv:=qP hr;split at hs
   ·(rename_i l hh hl hhh;obtain⟨hok,hK⟩:=hs;have hl':=jF he hl;have hh':=jF he hhh;have:=hok.lo;have:=hok.mid;have:=hok.hi;refine fin _ _ ?_ hK .nil;have:=f9 (w:=w) (ρ:=a.eval) (a:=none) h4 h5 (Nat.le_refl 0) hok.lo hok.mid hok.hi (hl'.imp (fun h=>⟨h.1,by rw[h.2]⟩) id) (hh'.imp (fun h=>⟨h.1,by rw[h.2];rfl⟩) id);have e1:(l ()).toNat=0:=by omega);have e2:(hh ()).toNat=0:=by omega
    rw[e1,e2,if_pos rfl] at this;simp only[execOp,hop,hv,Sem.run_bind,this,Result.andThen_ok,Sem.run_pure]
   {exact hs.elim}
  {exact hs.elim}
 {rename_i x hop;have hr:=he x;split at hs;{rename_i n o' hx;rw[hx] at hr;obtain⟨b,hβ,hv⟩:=uF hr;exact fin _ _ (by simp[execOp,hop,hv]) hs (.ptr hβ)};{rename_i n s i o' hx;rw[hx] at hr;obtain⟨b,hβ,hv⟩:=qG hr;exact fin _ _ (by simp[execOp,hop,hv]) hs (.aptr hβ)};{rename_i c o' hx;rw[hx] at hr;obtain⟨b,oo,vals,hS,hv,hf,hc,hrr⟩:=gY hr;exact fin _ _ (by simp[execOp,hop,hv]) hs (.dptr vals hS hf hc hrr)};{exact hs.elim}}
 ·(rename_i f first caps hop);split at hs
  ·(rename_i hfe;have hf0:first=#[]:=by simpa using hfe);have hc:=nO he caps.toList
   refine fin _ (.func (.func f) #[] (caps.toList.map a.eval).toArray) ?_ hs (.fn hc.1 hc.2);have:caps.map a.eval=(caps.toList.map a.eval).toArray:=Array.ext' (by simp);simp[execOp,hop,Instr.makeFunc,hf0,<-this]
  {exact hs.elim}
 ·rename_i c hop;split at hs
  ·rename_i hcl;split at hs
   ·(rename_i x t hx ht;have hr:=he x;have ha:c.args=#[x]:=by rw[<-Array.toArray_toList (xs:=c.args),hx]);have hta:c.argTypes=#[t]:=by rw[<-Array.toArray_toList (xs:=c.argTypes),ht]
    unfold lenK at hs;split at hs
    ·rename_i n b z hty;obtain⟨inf,el,j,zv,h1,h2,h3,h4,_⟩:=w5 hty;split at hs
     ·(rename_i els hxe;rw[hxe] at hr;have:=gW hr;obtain⟨aa,cap,hv,_⟩:∃ aa cap,a.eval x=.slice aa (els ()).length cap/\True:=by rcases qR this with⟨e0,aa,cap,hv⟩|⟨bb,oo,cap,s,vals,_,_,_,_,_,_,_,hv⟩;{exact⟨aa,cap,by rw[hv,e0];rfl,trivial⟩};{exact⟨_,cap,hv,trivial⟩});exact fin _ (.int .i64 ((els ()).length:Nat)) (by simp[execOp,hop,resolve,hcl,invoke,Go.builtin,ha,hta,hv,Builtin.len_,run_underlying h4,goInt]) hs (gX .i64 (fun _=>(((els ()).length:Nat):Int)))
     ·(rename_i m s o' l hxe;rw[hxe] at hr;obtain⟨aa,cap,hv⟩:∃ aa cap,a.eval x=.slice aa (l ()) cap:=by rcases w8 hr with⟨_,_,hl0,aa,hv⟩|⟨bb,cap,vs,T,hβ,hlc,hb,hsz,hv⟩;{exact⟨aa,0,by rw[hv,hl0]⟩};{exact⟨_,cap,hv⟩});exact fin _ (.int .i64 (l ():Nat)) (by simp[execOp,hop,resolve,hcl,invoke,Go.builtin,ha,hta,hv,Builtin.len_,run_underlying h4,goInt]) hs (gX .i64 (fun _=>((l ():Nat):Int)))
     {rename_i hxe;rw[hxe] at hr;have hv:=qP hr;exact fin _ (.int .i64 0) (by simp[execOp,hop,resolve,hcl,invoke,Go.builtin,ha,hta,hv,Builtin.len_,run_underlying h4,goInt]) hs (gX .i64 (fun _=>0))};{rename_i hxe;rw[hxe] at hr;obtain⟨aa,hv⟩:=rX hr;exact fin _ (.int .i64 0) (by simp[execOp,hop,resolve,hcl,invoke,Go.builtin,ha,hta,hv,Builtin.len_,run_underlying h4,goInt]) hs (gX .i64 (fun _=>0))};{exact hs.elim}
    {exact hs.elim}
   {exact hs.elim}
  ·rename_i hcl;split at hs
   ·(rename_i x y hx;have ha:c.args=#[x,y]:=by rw[<-Array.toArray_toList (xs:=c.args),hx]);split at hs
    {rename_i k b hxe hye;have hr:=he x;have hr2:=he y;rw[hxe] at hr;rw[hye] at hr2;refine fin _ (.int .i64 (imax (k ()) (b ()))) ?_ hs (gX .i64 (fun _=>imax (k ()) (b ())));simp[execOp,hop,resolve,hcl,invoke,Go.builtin,ha,xV hr,xV hr2,Builtin.max_,Builtin.max2,imax]};{exact hs.elim}
   {exact hs.elim}
  ·rename_i hcl;split at hs
   ·(rename_i x y hx;have ha:c.args=#[x,y]:=by rw[<-Array.toArray_toList (xs:=c.args),hx]);split at hs
    {rename_i k b hxe hye;have hr:=he x;have hr2:=he y;rw[hxe] at hr;rw[hye] at hr2;refine fin _ (.int .i64 (imin (k ()) (b ()))) ?_ hs (gX .i64 (fun _=>imin (k ()) (b ())));simp[execOp,hop,resolve,hcl,invoke,Go.builtin,ha,xV hr,xV hr2,Builtin.min_,Builtin.min2,imin]};{exact hs.elim}
   {exact hs.elim}
  {rename_i f hcl;split at hs;{rename_i g caps hf;exact b7 hop hcl h hf (hs.h.resolve_right fun q=>by cases q.1) hk};{exact hs.elim}};{exact hs.elim}
 {exact hs.elim}
end
end Go.Proofs.YtfainocfaddbdaaGreat
