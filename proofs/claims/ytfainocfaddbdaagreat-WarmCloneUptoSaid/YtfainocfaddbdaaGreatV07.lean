/- A part of the proof: PmJ. -/
import Derived.Test.YtfainocfaddbdaaGreatV06
set_option linter.all false
namespace Go.Proofs.YtfainocfaddbdaaGreat
open Go
section
variable {w0:World} {S0:Nat->Nat->Prop} {K0:Nat->Prop} {N:Cx} {τ:Nat->PV} {objs:List (Nat×Obj')} {a:Act} {w:World} {S S':Nat->Nat->Prop} {β:Bm}
theorem Evo.refl:Evo S w w:=⟨fun _ _ _=>rfl,fun b vs T h=>⟨vs,h,rfl⟩⟩
theorem Rep.mono {v pv}(h:Rep w S β v pv)(hS:∀ b i,S b i->S' b i):Rep w S' β v pv:=h.evo Evo.refl hS
theorem uI (f:PV->PV)(hf:f .any=.any):∀ (l:List (Nat×PV)) (t:Nat),zB (xZ f l) t=f (zB l t)
 |[],t=>by simp[xZ,zB,hf]| (u,v)::r,t=>by
  simp only[xZ,zB];cases nqb u t with
  |true=>rfl| false=>exact uI f hf r t
theorem zI (f:PV->PV):∀ (l:List PV),(x8 f l).length=l.length
 |[]=>rfl| v::r=>by simp[x8,zI f r]
theorem yB (f:PV->PV)(hf:f .any=.any):∀ (l:List PV) (j:Nat),(x8 f l).getD j .any=f (l.getD j .any)
 |[],j=>by simp[x8,hf]| v::r,0=>by simp[x8]| v::r,j+1=>by simpa[x8] using yB f hf r j
theorem kX {f:PV->Prop}(hf:f .any):∀ {cs:List PV},oY f cs->∀ j,f (cs.getD j .any)
 |[],_,j=>by simpa using hf| c::cs,h,0=>by simpa using h.1| c::cs,h,j+1=>by simpa using kX hf h.2 j
def szO:Obj'->Nat
 |.box cs=>cs.length| .arr s els=>(els ()).length*s| .log s els=>(els ()).length*s| .lent s els=>(els ()).length*s| .mat _ _ _=>0
theorem pE {n s:Nat}{els:Unit->List (List D)}{o:Obj'}(hr:oP o=some (s,els))(h:ObjAt w S β n o):RowAt w S β n s els:=by
 cases o with
 |box cs=>cases hr
 |arr s' e=>cases hr;exact h
 |log s' e=>cases hr;exact h
 |lent s' e=>cases hr;exact h.1
 |mat s' r q=>cases hr
theorem zFA {s:Nat}{els:Unit->List (List D)}{o:Obj'}(hr:oP o=some (s,els)):szO o=(els ()).length*s:=by
 cases o with
 |box cs=>cases hr
 |arr s' e=>cases hr;rfl
 |log s' e=>cases hr;rfl
 |lent s' e=>cases hr;rfl
 |mat s' r q=>cases hr
structure FrzAt (w:World) (S S':Nat->Nat->Prop) (β:Bm) (n:Nat) (o:Obj'):Prop where
 sub:∀ b i,S b i->S' b i
 new:∀ b,β n=some b->∀ i,i<szO o->S' b i
 at_:ObjAt w S β n o
 cl:lA o=true
theorem frz0 {n:Nat}{o:Obj'}(F:FrzAt w S S' β n o){v pv}(h:Rep w S β v pv)(hf:fo0 n o pv):Rep w S' β v (fz0 n o pv):=by
 have hm:=h.mono F.sub;cases pv with
 |agg cs=>exact xM _| tup cs=>exact xM _| fn f cs=>exact xM _| ptr m off =>
  simp only[fz0];cases hb:nqb m n with
  |false=>exact hm| true =>
   have:=yG hb;subst this;simp only[cond_true];cases o with
   |arr s els=>exact xM _| log s els=>exact xM _| lent s els=>exact xM _| mat s r q=>exact xM _| box cs =>
    obtain⟨b,hβ,rfl⟩:=uM h;obtain⟨b',vs,T,hβ',hw,hsz,hr⟩:=F.at_;rw[hβ] at hβ';cases hβ';have hcl:=F.cl;simp only[lA] at hcl;have hfl:yP kZ (x8 eU cs)=true:=by
     have:∀ (l:List PV),yP s5 l=true->yP kZ (x8 eU l)=true:=by
      intro l;induction l with
      |nil=>intro _;rfl
      |cons c l ih =>
       intro h;simp only[yP,Bool.and_eq_true,x8] at h ⊢;exact⟨by cases c <;> simp_all [s5,eU,kZ],ih h.2⟩
     exact this cs hcl
    show Rep w S' β _ (.dptr (x8 eU cs) off)
    suffices key:Rep w S' β (.pointer (some ⟨b,0+off,none⟩)) (.dptr (x8 eU cs) off) by rw[Nat.zero_add] at key;exact key
    refine Rep.dptr (o:=0) (fun j=>vs.getD j undef) (fun j hj=>F.new b hβ _ (by rw[zI] at hj;simpa[szO] using hj)) hfl (fun j hj=>?_) (fun j hj=>?_);{rw[zI] at hj;rw[Nat.zero_add];exact vP hw j (by omega)}
    ·(rw[zI] at hj;rw[yB _ rfl];have h1:=bT ((hr j hj).mono F.sub) (y7 rfl hcl j);have h2:∀ x:PV,toD (eU x)=toD x:=by intro x;cases x <;> rfl);rw[h2]
     exact h1
 |aptr m s i off =>
  simp only[fz0];cases hb:nqb m n with
  |false=>exact hm| true=>exact xM _
 |osl m s i len =>
  simp only[fz0];cases hb:nqb m n with
  |false=>exact hm| true =>
   have:=yG hb;subst this;simp only[cond_true];cases hro:oP o with
   |none=>exact xM _| some p =>
    obtain⟨s',els⟩:=p;simp only[fo0,hb,hro] at hf;have hf:=hf.h;show Rep w S' β v ((match nqb s s' with|true=>PV.sl (fun _=>((els ()).drop (i ())).take (len ()))|false=>.any));cases hss:nqb s s' with
    |false=>exact xM _| true =>
     have:=yG hss;subst this;simp only[cond_true];refine .c rfl ?_;simp only[toD];rcases vC h with⟨hn,ho,hl,aa,rfl⟩|⟨b,cap,vs,T,hβ,hlc,hw,hsz,rfl⟩;{rw[hl];simpa using RepD.sl0 _ _}
     ·rcases pE hro F.at_ with⟨hn,_⟩|⟨b',vs',T',hβ',hw',hsz',hwid,hr⟩;{rw[hβ] at hn;cases hn}
      ·(rw[hβ] at hβ';cases hβ';rw[hw] at hw';cases hw';have hlen:(((els ()).drop (i ())).take (len ())).length=len ():=by simp;omega);by_cases h0:len ()=0
       {rw[h0];simpa using RepD.sl0 _ _}
       ·(have hg:∀ k,k<len ()->(((els ()).drop (i ())).take (len ())).getD k []=(els ()).getD (i ()+k) []:=by intro k hk;simp only[List.getD_eq_getElem?_getD];rw[List.getElem?_take_of_lt hk,List.getElem?_drop]);have key:=RepD.sl (w:=w) (S:=S') (b:=b) (o:=i ()*s) (cap:=cap) (s:=s) (els:=((els ()).drop (i ())).take (len ())) (fun k j=>vs.getD ((i ()+k)*s+j) undef)
         (by intro e;rw[e] at hlen;simp at hlen;omega) (by rw[hlen];exact hlc)
         (fun k j hk hj=>F.new b hβ _ (by
          rw[hlen] at hk;rw[zFA hro];have:(i ()+k)*s+s<=(els ()).length*s:=by
           calc (i ()+k)*s+s=(i ()+k+1)*s:=by rw[Nat.add_mul (i ()+k)];omega
            _<=_:=Nat.mul_le_mul_right _ (by omega)
          rw[Nat.add_mul] at this;omega))
         (fun e he=>hwid e (List.mem_of_mem_drop (List.mem_of_mem_take he)))
         (fun k j hk hj=>by
          rw[hlen] at hk;have hlt:(i ()+k)*s+j<vs.size:=by
           have:(i ()+k)*s+s<=(els ()).length*s:=by
            calc (i ()+k)*s+s=(i ()+k+1)*s:=by rw[Nat.add_mul (i ()+k)];omega
             _<=_:=Nat.mul_le_mul_right _ (by omega)
           omega
          rw[<-vP hw _ hlt,Nat.add_mul])
         (fun k j hk hj=>by rw[hlen] at hk;exact (hr (i ()+k) j (by omega) hj).2)
         (fun k j hk hj=>by rw[hlen] at hk;rw[hg k hk];exact ((hr (i ()+k) j (by omega) hj).1).evo (fun _ _ _=>rfl) F.sub)
        rw[hlen] at key;exact key
 |int k x=>exact hm| tt=>exact hm| ff=>exact hm| bool b=>exact hm| nbool b=>exact hm| str x=>exact hm| nil=>exact hm| sl e=>exact hm| dptr cs o=>exact hm| nilf=>exact hm| nilp=>exact hm| emp=>exact hm| any=>exact hm
theorem frz1 {n:Nat}{o:Obj'}(F:FrzAt w S S' β n o){v pv}(h:Rep w S β v pv)(hf:fo1 n o pv):Rep w S' β v (fz1 n o pv):=by
 cases pv with
 |agg cs =>
  obtain⟨vs,rfl,h1,h2⟩:=v5 h;exact .agg (by rw[zI];exact h1) fun j hj=>by rw[zI] at hj;rw[yB _ rfl];exact frz0 F (h2 j hj) (kX trivial hf j)
 |tup cs =>
  obtain⟨vs,rfl,h1,h2⟩:=k8 h;exact .tup (by rw[zI];exact h1) fun j hj=>by rw[zI] at hj;rw[yB _ rfl];exact frz0 F (h2 j hj) (kX trivial hf j)
 |fn f cs =>
  obtain⟨vs,rfl,h1,h2⟩:=k9 h;exact .fn (by rw[zI];exact h1) fun j hj=>by rw[zI] at hj;rw[yB _ rfl];exact frz0 F (h2 j hj) (kX trivial hf j)
 |_=>exact frz0 F h hf
theorem frz2 {n:Nat}{o:Obj'}(F:FrzAt w S S' β n o){v pv}(h:Rep w S β v pv)(hf:fo n o pv):Rep w S' β v (frz n o pv):=by
 cases pv with
 |agg cs =>
  obtain⟨vs,rfl,h1,h2⟩:=v5 h;exact .agg (by rw[zI];exact h1) fun j hj=>by rw[zI] at hj;rw[yB _ rfl];exact frz1 F (h2 j hj) (kX trivial hf j)
 |tup cs =>
  obtain⟨vs,rfl,h1,h2⟩:=k8 h;exact .tup (by rw[zI];exact h1) fun j hj=>by rw[zI] at hj;rw[yB _ rfl];exact frz1 F (h2 j hj) (kX trivial hf j)
 |fn f cs =>
  obtain⟨vs,rfl,h1,h2⟩:=k9 h;exact .fn (by rw[zI];exact h1) fun j hj=>by rw[zI] at hj;rw[yB _ rfl];exact frz1 F (h2 j hj) (kX trivial hf j)
 |_=>exact frz0 F h hf
theorem xP (f:PV->PV):∀ {l:List (Nat×Obj')} {n:Nat} {o:Obj'},(n,o)∈yT f l->∃ o',(n,o')∈l/\o=xE f o'
 |(m,o1)::r,n,o,h=>by
  (have e:yT f ((m,o1)::r)=(m,xE f o1)::yT f r:=by cases o1 <;> rfl);rw[e,List.mem_cons] at h
  rcases h with h|h;{cases h;exact⟨_,List.mem_cons_self,rfl⟩};{obtain⟨o',h1,h2⟩:=xP f h;exact⟨o',List.mem_cons_of_mem _ h1,h2⟩}
theorem kJ (f:PV->PV):∀ (l:List (Nat×Obj')),(yT f l).map Prod.fst=l.map Prod.fst
 |[]=>rfl| (m,o1)::r=>by
  (have e:yT f ((m,o1)::r)=(m,xE f o1)::yT f r:=by cases o1 <;> rfl);rw[e,List.map_cons,List.map_cons,kJ f r]
theorem pU (f:PV->PV):∀ {hs:List (PV×(Unit->Nat))} {v:PV} {k:Unit->Nat},(v,k)∈qS f hs->∃ v',(v',k)∈hs/\v=f v'
 |(u,j)::r,v,k,h=>by simp only[qS,List.mem_cons] at h;rcases h with h|h;{cases h;exact⟨_,List.mem_cons_self,rfl⟩};{obtain⟨v',h1,h2⟩:=pU f h;exact⟨v',List.mem_cons_of_mem _ h1,h2⟩}
theorem aX (f:PV->PV):∀ {hs:List (PV×(Unit->Nat))} {v:PV} {k:Unit->Nat},(v,k)∈hs->(f v,k)∈qS f hs
 |(u,j)::r,v,k,h=>by simp only[qS,List.mem_cons] at h ⊢;rcases h with h|h;{cases h;exact .inl rfl};{exact .inr (aX f h)}
theorem uW (f:PV->PV)(o:Obj')(i:Nat):wD (xE f o) i↔wD o i:=by
 cases o with
 |mat s rows hs =>
  show (_/\_)↔(_/\_);constructor;{exact fun h=>⟨h.1,fun v k hk=>h.2 (f v) k (aX f hk)⟩};{exact fun h=>⟨h.1,fun v k hk=>by obtain⟨v',h1,_⟩:=pU f hk;exact h.2 v' k h1⟩}
 |_=>exact Iff.rfl
theorem wL {f:PV->PV}{n:Nat}{o:Obj'}{b:Nat}(h:Own β n (xE f o) b):Own β n o b:=by rcases h with h|⟨i,h1,h2⟩;{exact .inl h};{exact .inr ⟨i,(uW f o i).1 h1,h2⟩}
theorem zI4 {f:PV->PV}{n:Nat}{o:Obj'}{b:Nat}(h:Own β n o b):Own β n (xE f o) b:=by rcases h with h|⟨i,h1,h2⟩;{exact .inl h};{exact .inr ⟨i,(uW f o i).2 h1,h2⟩}
theorem d5 {f:PV->PV}{o:Obj'}{i:Nat}(h:qH o i):qH (xE f o) i:=by cases o <;> exact h
theorem xQ:∀ {l:List (Nat×Obj')} {n m:Nat} {o:Obj'},(m,o)∈xD l n->(m,o)∈l/\m≠n
 |(u,x)::r,n,m,o,h=>by
  simp only[xD] at h;cases hu:nqb u n with
  |true =>
   simp only[hu,cond_true] at h;obtain⟨h1,h2⟩:=xQ h;exact⟨List.mem_cons_of_mem _ h1,h2⟩
  |false =>
   simp only[hu,cond_false,List.mem_cons] at h;rcases h with h|h;{cases h;exact⟨List.mem_cons_self,fun e=>by subst e;simp at hu⟩};{obtain⟨h1,h2⟩:=xQ h;exact⟨List.mem_cons_of_mem _ h1,h2⟩}
theorem aI:∀ (l:List (Nat×Obj')) (n:Nat),((xD l n).map Prod.fst).Sublist (l.map Prod.fst)
 |[],n=>by simp[xD]| (u,x)::r,n=>by
  simp only[xD];cases nqb u n with
  |true=>exact (aI r n).trans (List.sublist_cons_self _ _)| false=>exact (aI r n).cons_cons _
theorem zDM {n:Nat}{o:Obj'}:∀ {l:List (Nat×PV)},foT n o l->∀ t,fo n o (zB l t)
 |[],_,t=>trivial| (u,v)::r,h,t=>by
  simp only[zB];cases nqb u t with
  |true=>exact h.1| false=>exact zDM h.2 t
theorem zDN {n u:Nat}{o o1:Obj'}{r:List (Nat×Obj')}(h:foO n o ((u,o1)::r)):foO n o r:=by cases o1 <;> first|exact h|exact h.2
theorem zGP {n:Nat}{o:Obj'}:∀ {l:List (Nat×Obj')},foO n o l->∀ {m cs},(m,Obj'.box cs)∈l->oY (fo n o) cs
 |(u,o1)::r,h,m,cs,hm=>by rcases List.mem_cons.1 hm with hm|hm;{cases hm;exact h.1};{exact zGP (zDN h) hm}
theorem zDO {n:Nat}{o:Obj'}:∀ {l:List (Nat×Obj')},foO n o l->∀ {m s rows hs},(m,Obj'.mat s rows hs)∈l->foH n o hs
 |(u,o1)::r,h,m,s,rows,hs,hm=>by rcases List.mem_cons.1 hm with hm|hm;{cases hm;exact h.1};{exact zDO (zDN h) hm}
theorem zGQ {n:Nat}{o:Obj'}:∀ {hs:List (PV×(Unit->Nat))},foH n o hs->∀ {v k},(v,k)∈hs->fo n o v
 |(u,j)::r,h,v,k,hm=>by rcases List.mem_cons.1 hm with hm|hm;{cases hm;exact h.1};{exact zGQ h.2 hm}
theorem RowIn.mono {ob:Option Nat}{v:Value}{s:Nat}{els:List (List D)}(h:RowIn w S ob v s els)(hS:∀ b i,S b i->S' b i):RowIn w S' ob v s els:=by rcases h with h|⟨b,cap,us,T,h1,h2,h3,h4,h5,h6,h7⟩;{exact .inl h};{exact .inr ⟨b,cap,us,T,h1,h2,h3,h4,h5,h6,fun i j hi hj=>⟨(h7 i j hi hj).1.evo (fun _ _ _=>rfl) hS,(h7 i j hi hj).2⟩⟩}
theorem MatAt.map {n s:Nat}{rows:Unit->List (List (List D))}{hs:List (PV×(Unit->Nat))}{f:PV->PV}(h:MatAt w S β n s rows hs)(hS:∀ b i,S b i->S' b i)(hf:∀ v x k,(x,k)∈hs->Rep w S β v x->Rep w S' β v (f x)):MatAt w S' β n s rows (qS f hs):=by have hr:=uW f (.mat s rows hs);obtain⟨hp,h5,h6⟩:=h;refine⟨?_,fun i j b hi hj=>h5 i j b ((hr i).1 hi) ((hr j).1 hj),fun i b hi=>h6 i b ((hr i).1 hi)⟩;rcases hp with⟨e1,e2,e3⟩|⟨b,vs,T,h1,h2,h3,h4,h7⟩;{subst e3;exact .inl ⟨e1,e2,rfl⟩};{refine .inr ⟨b,vs,T,h1,h2,h3,fun v k hk=>?_,fun i hi=>(h7 i ((hr i).1 hi)).mono hS⟩;obtain⟨v',g1,rfl⟩:=pU f hk;exact⟨(h4 v' k g1).1,hf _ _ _ g1 (h4 v' k g1).2⟩}
theorem RowAt.mono {n s:Nat}{els:Unit->List (List D)}(h:RowAt w S β n s els)(hS:∀ b i,S b i->S' b i):RowAt w S' β n s els:=by rcases h with e|⟨b,vs,T,e1,e2,e3,e4,e5⟩;{exact .inl e};{exact .inr ⟨b,vs,T,e1,e2,e3,e4,fun i j hi hj=>⟨(e5 i j hi hj).1.evo (fun _ _ _=>rfl) hS,(e5 i j hi hj).2⟩⟩}
theorem ObjAt.mono {n:Nat}{o:Obj'}(h:ObjAt w S β n o)(hS:∀ b i,S b i->S' b i):ObjAt w S' β n o:=by
 cases o with
 |box cs=>obtain⟨b,vs,T,e1,e2,e3,e4⟩:=h;exact⟨b,vs,T,e1,e2,e3,fun j hj=>(e4 j hj).mono hS⟩
 |arr s els=>exact RowAt.mono h hS| log s els=>exact RowAt.mono h hS| lent s els=>exact⟨RowAt.mono h.1 hS,h.2.mono hS⟩| mat s rows hs =>
  obtain⟨hp,h5,h6⟩:=h;refine⟨?_,h5,h6⟩;rcases hp with hp|⟨b,vs,T,h1,h2,h3,h4,h7⟩;{exact .inl hp};{exact .inr ⟨b,vs,T,h1,h2,h3,fun v k hk=>⟨(h4 v k hk).1,(h4 v k hk).2.mono hS⟩,fun i hi=>(h7 i hi).mono hS⟩}
theorem Sim.frz {ps:PS}(h:Sim w0 S0 K0 N (zB ps.tmps) ps.objs a w S β){n:Nat}{o:Obj'}(ho:yA ps.objs n=some o)(hc:lA o=true)(hT:foT n o ps.tmps)(hO:foO n o ps.objs):∃ S' β',Sim w0 S0 K0 N (zB (zE9 n o ps).tmps) (zE9 n o ps).objs a w S' β':=by
 have hmem:=yW ho;have F:FrzAt w S (fun b i=>S b i\/β n=some b) β n o:=⟨fun b i=>.inl,fun b h i _=>.inr h,h.obj.at_ n o hmem,hc⟩;refine⟨fun b i=>S b i\/β n=some b,β,⟨h.dfr,h.sz,?_,?_,?_,?_,?_⟩⟩;{refine⟨h.ld.size,h.ld.os,h.ld.tape,h.ld.output,h.ld.same,h.ld.shape,?_,?_,?_⟩;{rintro b i (hS|hβ);{exact h.ld.bnd b i hS};{exact (h.obj.un n o b hmem (.inl hβ)).2}};{exact fun b i hb hS=>.inl (h.ld.sub b i hb hS)};{rintro b i hb hk (hS|hβ);{exact h.ld.old b i hb hk hS};{rcases h.own n o b hmem (.inl hβ) with h'|h';{omega};{exact absurd h' hk}}}};{intro t;simp only[zE9];rw[uI _ rfl];exact frz2 F (h.tmp t) (zDM hT t)}
 ·refine⟨?_,?_,?_,?_⟩;{simp only[zE9,kJ];exact (aI _ _).nodup h.obj.nd}
  ·intro m o' hm;obtain⟨o'',h1,h2⟩:=xP _ hm;obtain⟨h3,h4⟩:=xQ h1;have hat:=h.obj.at_ m o'' h3;cases o'' with
   |box cs =>
    subst h2;obtain⟨b,vs,T,e1,e2,e3,e4⟩:=hat;exact⟨b,vs,T,e1,e2,by rw[zI];exact e3,fun j hj=>by rw[zI] at hj;rw[yB _ rfl];exact frz2 F (e4 j hj) (kX trivial (zGP hO h3) j)⟩
   |arr s els=>subst h2;exact RowAt.mono hat F.sub| log s els=>subst h2;exact RowAt.mono hat F.sub| lent s els=>subst h2;exact⟨RowAt.mono hat.1 F.sub,hat.2.mono F.sub⟩| mat s rows hs=>subst h2;exact MatAt.map hat F.sub fun v x k hk hv=>frz2 F hv (zGQ (zDO hO h3) hk)
  {intro m o' b hm hβ;obtain⟨o'',h1,rfl⟩:=xP _ hm;obtain⟨h3,h4⟩:=xQ h1;obtain⟨h5,h6⟩:=h.obj.un m o'' b h3 (wL hβ);refine⟨?_,h6⟩;rintro i (hS|hn);{exact d5 (h5 i hS)};{exact absurd (h.obj.inj _ _ _ _ b h3 hmem (wL hβ) (.inl hn)) h4}};{intro m o' m' o'' b hm hm' hβ hβ';obtain⟨x,h1,rfl⟩:=xP _ hm;obtain⟨y,h2,rfl⟩:=xP _ hm';exact h.obj.inj _ _ _ _ b (xQ h1).1 (xQ h2).1 (wL hβ) (wL hβ')}
 {intro m o' b hm hβ;obtain⟨x,h1,rfl⟩:=xP _ hm;exact h.own m x b (xQ h1).1 (wL hβ)};{intro m o' hm hb;obtain⟨x,h1,_⟩:=xP _ hm;exact h.keep m x (xQ h1).1 hb}
theorem f8 {f:PV->PV->Prop}(hf:∀ a b,f a b->Le a b):∀ {a b:List PV},kY f a b->LeL a b
 |[],[],_=>by simp[LeL]| x::a,y::b,h=>by simp only[LeL];exact⟨hf _ _ h.1,f8 hf h.2⟩| [],y::b,h=>h.elim| x::a,[],h=>h.elim
theorem zBQ {a b:PV}(h:les1 a b):Le a b:=by unfold les1 at h;split at h;{simp only[Le];exact f8 (fun _ _ h=>h.h) h};{simp only[Le];exact f8 (fun _ _ h=>h.h) h};{exact h.h}
theorem fS {a b:PV}(h:les a b):Le a b:=by unfold les at h;split at h;{simp only[Le];exact f8 (fun _ _ h=>zBQ h) h};{simp only[Le];exact f8 (fun _ _ h=>zBQ h) h};{simp only[Le];exact⟨yG h.1,f8 (fun _ _ h=>zBQ h) h.2⟩};{exact h.h}
theorem cX {a b:List PV}(h:kY les a b):LeL a b:=f8 (fun _ _ h=>fS h) h
theorem zDD {src:List (Nat×PV)}:∀ {l:List (Nat×PV)},leT src l->∀ t,Le (zB src t) (zB l t)
 |[],_,t=>by simp[zB,Le]| (u,v)::r,h,t=>by
  simp only[zB];cases hu:nqb u t with
  |true=>have:=yG hu;subst this;exact fS h.1| false=>exact zDD h.2 t
theorem cY {src:List (Nat×Obj')}:∀ {l:List (Nat×Obj')},leO src l->∀ {n o},(n,o)∈l->∃ o',(n,o')∈src/\oM o' o
 |(u,x)::r,h,n,o,hm=>by simp only[List.mem_cons] at hm;rcases hm with hm|hm;{cases hm;have h1:=h.1;split at h1;{rename_i o' ho;exact⟨o',yW ho,h1⟩};{exact h1.elim}};{exact cY h.2 hm}
theorem zDJ {n:Nat}:∀ {l:List (Nat×Obj')},hasN n l=false->n∉l.map Prod.fst
 |[],_=>by simp| (m,o)::r,h=>by simp only[hasN,Bool.or_eq_false_iff] at h;simp only[List.map_cons,List.mem_cons,not_or];exact⟨fun e=>by subst e;simp at h,zDJ h.2⟩
theorem u7:∀ {l:List (Nat×Obj')},ndO l=true->(l.map Prod.fst).Nodup
 |[],_=>List.nodup_nil| (n,o)::r,h=>by simp only[ndO,Bool.and_eq_true,Bool.not_eq_true'] at h;simp only[List.map_cons,List.nodup_cons];exact⟨zDJ h.1,u7 h.2⟩
theorem zBS:∀ {hs hs':List (PV×(Unit->Nat))},hLe hs hs'->∀ {v k},(v,k)∈hs'->∃ v' k',(v',k')∈hs/\Le v' v/\k' ()=k ()
 |[],[],_,v,k,hm=>by cases hm
 |(x,j)::r,(y,l)::q,h,v,k,hm=>by rcases List.mem_cons.1 hm with hm|hm;{cases hm;refine⟨x,j,List.mem_cons_self,h.1.1.h,?_⟩;have:=h.1.2.h;simp only[Le,true_and] at this;omega};{obtain⟨v',k',h1,h2⟩:=zBS h.2 hm;exact⟨v',k',List.mem_cons_of_mem _ h1,h2⟩}
 |[],y::q,h,_,_,_=>h.elim| x::r,[],h,_,_,hm=>h.elim
theorem zDL:∀ {hs hs':List (PV×(Unit->Nat))},hLe hs hs'->∀ {v k},(v,k)∈hs->∃ v' k',(v',k')∈hs'/\k ()=k' ()
 |[],[],_,v,k,hm=>by cases hm
 |(x,j)::r,(y,l)::q,h,v,k,hm=>by rcases List.mem_cons.1 hm with hm|hm;{cases hm;refine⟨y,l,List.mem_cons_self,?_⟩;have:=h.1.2.h;simp only[Le,true_and] at this;omega};{obtain⟨v',k',h1,h2⟩:=zDL h.2 hm;exact⟨v',k',List.mem_cons_of_mem _ h1,h2⟩}
 |[],y::q,h,_,_,hm=>h.elim| x::r,[],h,_,_,hm=>h.elim
theorem zAV {s:Nat}{rows:Unit->List (List (List D))}{hs hs':List (PV×(Unit->Nat))}(h:hLe hs hs')(i:Nat):wD (.mat s rows hs) i↔wD (.mat s rows hs') i:=by show (_/\_)↔(_/\_);constructor;{exact fun g=>⟨g.1,fun v k hk=>by obtain⟨v',k',h1,_,h3⟩:=zBS h hk;rw[<-h3];exact g.2 v' k' h1⟩};{exact fun g=>⟨g.1,fun v k hk=>by obtain⟨v',k',h1,h3⟩:=zDL h hk;rw[h3];exact g.2 v' k' h1⟩}
inductive ObjLe':Obj'->Obj'->Prop
 |box {a b} (h:LeL a b):ObjLe' (.box a) (.box b)
 |refl (o):ObjLe' o o
 |ll (s els):ObjLe' (.lent s els) (.log s els)
 |mat {s rows hs hs'} (h:hLe hs hs'):ObjLe' (.mat s rows hs) (.mat s rows hs')
theorem iR {o' o:Obj'}(h:oM o' o):ObjLe' o' o:=by
 cases o' <;> cases o <;> first
  |exact h.elim
  |exact .box (cX h)
  |(obtain⟨hs,he⟩:=h;have:=yG hs;subst this;cases fU he.h;first|exact .refl _|exact .ll _ _;done)
  |(obtain⟨hs,he,hh⟩:=h;have:=yG hs;subst this;cases fU he.h;exact .mat hh)
theorem ObjAt.le {n:Nat}{o o':Obj'}(h:ObjAt w S β n o')(hl:oM o' o):ObjAt w S β n o:=by
 cases iR hl with
 |refl=>exact h| ll s els=>exact h.1| box hq =>
  obtain⟨b,vs,T,e1,e2,e3,e4⟩:=h;exact⟨b,vs,T,e1,e2,e3.trans (wZ hq),fun j hj=>(e4 j (by rw[wZ hq];exact hj)).le _ (cK hq j hj)⟩
 | @mat s rows hs hs' hh =>
  obtain⟨hp,h5,h6⟩:=h;have hr:=fun i=>zAV (s:=s) (rows:=rows) hh i;refine⟨?_,fun i j b hi hj=>h5 i j b ((hr i).2 hi) ((hr j).2 hj),fun i b hi=>h6 i b ((hr i).2 hi)⟩;rcases hp with⟨e1,e2,e3⟩|⟨b,vs,T,h1,h2,h3,h4,h7⟩
  ·subst e3;refine .inl ⟨e1,e2,?_⟩;cases hs' with
   |nil=>rfl| cons x r=>exact hh.elim
  {exact .inr ⟨b,vs,T,h1,h2,h3,fun v k hk=>by obtain⟨v',k',g1,g2,g3⟩:=zBS hh hk;rw[<-g3];exact⟨(h4 v' k' g1).1,(h4 v' k' g1).2.le _ g2⟩,fun i hi=>h7 i ((hr i).2 hi)⟩}
theorem zI3 {o o':Obj'}(hl:oM o' o){i:Nat}(h:qH o' i):qH o i:=by
 cases iR hl with
 |refl=>exact h| ll s els=>exact h| box hl=>exact h.elim| mat hh=>exact h.elim
theorem iO {n:Nat}{o o':Obj'}{b:Nat}(hl:oM o' o)(h:Own β n o b):Own β n o' b:=by
 cases iR hl with
 |refl=>exact h| ll s els=>exact .inl (yS (by intro _ hi;exact hi) h)| box hl=>exact .inl (yS (by intro _ hi;exact hi) h)| mat hh =>
  rcases h with h|⟨i,h1,h2⟩;{exact .inl h};{exact .inr ⟨i,(zAV hh i).2 h1,h2⟩}
theorem Sim.le {ps ps':PS}(h:Sim w0 S0 K0 N (zB ps.tmps) ps.objs a w S β)(ht:leT ps.tmps ps'.tmps)(ho:leO ps.objs ps'.objs)(hn:ndO ps'.objs=true):Sim w0 S0 K0 N (zB ps'.tmps) ps'.objs a w S β where
 dfr:=h.dfr
 sz:=h.sz
 ld:=h.ld
 tmp t:=(h.tmp t).le _ (zDD ht t)
 obj:=⟨u7 hn,fun n o hm=>by obtain⟨o',h1,h2⟩:=cY ho hm;exact (h.obj.at_ n o' h1).le h2,
  fun n o b hm hβ=>by obtain⟨o',h1,h2⟩:=cY ho hm;exact⟨fun i hS=>zI3 h2 ((h.obj.un n o' b h1 (iO h2 hβ)).1 i hS),(h.obj.un n o' b h1 (iO h2 hβ)).2⟩,
  fun n o m o' b hm hm' hβ hβ'=>by obtain⟨x,h1,g1⟩:=cY ho hm;obtain⟨y,h2,g2⟩:=cY ho hm';exact h.obj.inj _ _ _ _ b h1 h2 (iO g1 hβ) (iO g2 hβ')⟩
 own n o b hm hβ:=by obtain⟨o',h1,g1⟩:=cY ho hm;exact h.own n o' b h1 (iO g1 hβ)
 keep n o hm hb:=by obtain⟨o',h1,_⟩:=cY ho hm;exact h.keep n o' h1 hb
theorem x4 {n:Nat}:∀ {l:List (Nat×PV)},dY n l=true->∀ t,y8 n (zB l t)=true
 |[],_,t=>rfl| (u,v)::r,h,t=>by
  simp only[dY,Bool.and_eq_true] at h;simp only[zB];cases nqb u t with
  |true=>exact h.1| false=>exact x4 h.2 t
def jE (n:Nat):Obj'->Prop
 |.box cs=>xU n cs=true| .arr _ _=>True| .log _ _=>True| .lent _ _=>True| .mat _ _ hs=>fN n hs=true
theorem sS {n u:Nat}{o:Obj'}{r:List (Nat×Obj')}(h:xB n ((u,o)::r)=true):u≠n/\jE n o/\xB n r=true:=by
 cases o with
 |box cs=>simp only[xB,Bool.and_eq_true] at h;exact⟨gN h.1.1,h.1.2,h.2⟩| arr s els=>simp only[xB,Bool.and_eq_true] at h;exact⟨gN h.1,trivial,h.2⟩| log s els=>simp only[xB,Bool.and_eq_true] at h;exact⟨gN h.1,trivial,h.2⟩| lent s els=>simp only[xB,Bool.and_eq_true] at h;exact⟨gN h.1,trivial,h.2⟩| mat s rows hs=>simp only[xB,Bool.and_eq_true] at h;exact⟨gN h.1.1,h.1.2,h.2⟩
theorem wJ {n:Nat}{l:List (Nat×Obj')}(h:xB n l=true):n<1000000:=by
 induction l with
 |nil=>exact b6 (by rw[xB] at h;exact h)| cons a r ih=>exact ih (sS (u:=a.1) (o:=a.2) h).2.2
theorem yC {n:Nat}{l:List (Nat×Obj')}(h:xB n l=true):∀ {m o},(m,o)∈l->m≠n/\jE n o:=by
 induction l with
 |nil=>intro m o hm;exact absurd hm (by simp)| cons a r ih =>
  intro m o hm;obtain⟨h1,h2,h3⟩:=sS (u:=a.1) (o:=a.2) h;rcases List.mem_cons.1 hm with hm|hm;{cases hm;exact⟨h1,h2⟩};{exact ih h3 hm}
theorem gE {n:Nat}:∀ {hs:List (PV×(Unit->Nat))},fN n hs=true->∀ {v k},(v,k)∈hs->y8 n v=true
 |(u,j)::r,h,v,k,hm=>by simp only[fN,Bool.and_eq_true] at h;rcases List.mem_cons.1 hm with hm|hm;{cases hm;exact h.1};{exact gE h.2 hm}
theorem RowAt.upd {n:Nat}{x:Option Nat}{m s:Nat}{els:Unit->List (List D)}(h:RowAt w S β m s els)(hm:m≠n):RowAt w S (vK β n x) m s els:=by rcases h with⟨e0,e⟩|⟨b,vs,T,e1,rest⟩;{exact .inl ⟨by rw[xW hm];exact e0,e⟩};{exact .inr ⟨b,vs,T,by rw[xW hm];exact e1,rest⟩}
theorem ObjAt.upd {n:Nat}{x:Option Nat}{m:Nat}{o:Obj'}(h:ObjAt w S β m o)(hm:m≠n)(hf:jE n o):ObjAt w S (vK β n x) m o:=by
 cases o with
 |box cs =>
  obtain⟨b,vs,T,e1,e2,e3,e4⟩:=h;exact⟨b,vs,T,by rw[xW hm];exact e1,e2,e3,fun j hj=>(e4 j hj).upd (y7 rfl hf j)⟩
 |arr s els=>exact RowAt.upd h hm| log s els=>exact RowAt.upd h hm| lent s els =>
  obtain⟨h,hst⟩:=h;exact⟨RowAt.upd h hm,fun b hb i hi=>hst b (by rw[xW hm] at hb;exact hb) i hi⟩
 |mat s rows hs =>
  obtain⟨hp,h5,h6⟩:=h;refine⟨?_,h5,fun i b hi hb=>by rw[xW hm];exact h6 i b hi hb⟩;rcases hp with⟨e1,e2,e3⟩|⟨b,vs,T,h1,h2,h3,h4,h7⟩;{exact .inl ⟨by rw[xW hm];exact e1,e2,e3⟩};{exact .inr ⟨b,vs,T,by rw[xW hm];exact h1,h2,h3,fun v k hk=>⟨(h4 v k hk).1,(h4 v k hk).2.upd (gE hf hk)⟩,h7⟩}
theorem Sim.freshO {ps:PS}(h:Sim w0 S0 K0 N (zB ps.tmps) ps.objs a w S β){n:Nat}{O:Obj'}(hf:yH n ps=true)(hO:∀ β':Bm,β' n=none->ObjAt w S β' n O)(hr:∀ i,¬wD O i):Sim w0 S0 K0 N (zB ps.tmps) (ps.objs++[(n,O)]) a w S (vK β n none):=by
 simp only[yH,Bool.and_eq_true] at hf;have hmem:∀ {m o},(m,o)∈ps.objs++[(n,O)]->((m,o)∈ps.objs/\m≠n)\/(m=n/\o=O):=by intro m o hm;simp only[List.mem_append,List.mem_singleton] at hm;rcases hm with hm|hm;{exact .inl ⟨hm,(yC hf.2 hm).1⟩};{cases hm;exact .inr ⟨rfl,rfl⟩}
 refine⟨h.dfr,h.sz,h.ld,fun t=>(h.tmp t).upd (x4 hf.1 t),⟨?_,?_,?_,?_⟩,?_,?_⟩;{rw[List.map_append,List.nodup_append];refine⟨h.obj.nd,by simp,?_⟩;intro x hx y hy e;simp at hy;subst hy e;obtain⟨⟨m,o⟩,h1,rfl⟩:=List.mem_map.1 hx;exact (yC hf.2 h1).1 rfl};{intro m o hm;rcases hmem hm with⟨h1,h2⟩|⟨rfl,rfl⟩;{exact (h.obj.at_ m o h1).upd h2 (yC hf.2 h1).2};{exact hO _ yL}};{intro m o b hm hβ;rcases hmem hm with⟨h1,h2⟩|⟨rfl,rfl⟩;{exact h.obj.un m o b h1 (x5 h2 hβ)};{have:=yS hr hβ;rw[yL] at this;cases this}};{intro m o m' o' b hm hm' hβ hβ';rcases hmem hm with⟨h1,h2⟩|⟨rfl,rfl⟩;{rcases hmem hm' with⟨h3,h4⟩|⟨rfl,rfl⟩;{exact h.obj.inj _ _ _ _ b h1 h3 (x5 h2 hβ) (x5 h4 hβ')};{have:=yS hr hβ';rw[yL] at this;cases this}};{have:=yS hr hβ;rw[yL] at this;cases this}};{intro m o b hm hβ;rcases hmem hm with⟨h1,h2⟩|⟨rfl,rfl⟩;{exact h.own m o b h1 (x5 h2 hβ)};{have:=yS hr hβ;rw[yL] at this;cases this}};{intro m o hm hb;rcases hmem hm with⟨h1,h2⟩|⟨rfl,rfl⟩;{rw[xW h2];exact h.keep m o h1 hb};{have:=wJ hf.2;omega}}
theorem Sim.fresh {ps:PS}(h:Sim w0 S0 K0 N (zB ps.tmps) ps.objs a w S β){n s:Nat}(hf:yH n ps=true):Sim w0 S0 K0 N (zB ps.tmps) (ps.objs++[(n,.arr s (fun _=>[]))]) a w S (vK β n none):=h.freshO hf (fun β' h=>.inl ⟨h,rfl⟩) fun _ hi=>hi
theorem Sim.setT {ps:PS}(h:Sim w0 S0 K0 N (zB ps.tmps) objs a w S β){t:Nat}{x:PV}(hx:Rep w S β (a.tmps.getD t undef) x):Sim w0 S0 K0 N (zB (vD ps.tmps t x)) objs a w S β :=
 ⟨h.dfr,h.sz,h.ld,fun u=>by
  rw[j5];by_cases e:u=t;{subst e;simpa using hx}
  ·simpa[e] using h.tmp u,h.obj,h.own,h.keep⟩
theorem xK:∀ {l:List (Nat×Obj')} {n:Nat} {x:Obj'} {m:Nat} {o:Obj'},(l.map Prod.fst).Nodup->n∈l.map Prod.fst->(m,o)∈setO l n x->(m=n/\o=x)\/(m≠n/\(m,o)∈l)
 |(u,v)::r,n,x,m,o,hnd,hn,hm=>by
  simp only[List.map_cons,List.nodup_cons] at hnd;simp only[setO] at hm;cases hu:nqb u n with
  |true =>
   have:=yG hu;subst this;simp only[hu,cond_true,List.mem_cons] at hm;rcases hm with hm|hm;{cases hm;exact .inl ⟨rfl,rfl⟩};{refine .inr ⟨fun e=>?_,List.mem_cons_of_mem _ hm⟩;subst e;exact hnd.1 (List.mem_map.2 ⟨_,hm,rfl⟩)}
  |false =>
   (have hne:u≠n:=fun e=>by subst e;simp at hu);simp only[hu,cond_false,List.mem_cons] at hm
   rcases hm with hm|hm;{cases hm;exact .inr ⟨hne,List.mem_cons_self⟩}
   ·(have hn':n∈r.map Prod.fst:=by simp only[List.map_cons,List.mem_cons] at hn;rcases hn with hn|hn;{exact absurd hn.symm hne};{exact hn});rcases xK hnd.2 hn' hm with h|⟨h1,h2⟩;{exact .inl h};{exact .inr ⟨h1,List.mem_cons_of_mem _ h2⟩}
 |[],n,x,m,o,hnd,hn,hm=>by simp at hn
theorem wW:∀ {l:List (Nat×Obj')} {n:Nat} {x:Obj'},n∈l.map Prod.fst->(setO l n x).map Prod.fst=l.map Prod.fst
 |(u,v)::r,n,x,hn=>by
  simp only[setO];cases hu:nqb u n with
  |true=>have:=yG hu;subst this;rfl
  |false =>
   (have hne:u≠n:=fun e=>by subst e;simp at hu);have hn':n∈r.map Prod.fst:=by simp only[List.map_cons,List.mem_cons] at hn;rcases hn with hn|hn;{exact absurd hn.symm hne};{exact hn}
   simp only[cond_false,List.map_cons,wW hn']
 |[],n,x,hn=>by simp at hn
theorem zK0:∀ {l:List (Nat×Obj')} {n:Nat} {x y:Obj'},(l.map Prod.fst).Nodup->(n,x)∈l->(n,y)∈l->x=y
 |(u,v)::r,n,x,y,hnd,h1,h2=>by simp only[List.map_cons,List.nodup_cons] at hnd;rcases List.mem_cons.1 h1 with e1|h1;{rcases List.mem_cons.1 h2 with e2|h2;{cases e1;cases e2;rfl};{cases e1;exact absurd (List.mem_map.2 ⟨_,h2,rfl⟩) hnd.1}};{rcases List.mem_cons.1 h2 with e2|h2;{cases e2;exact absurd (List.mem_map.2 ⟨_,h1,rfl⟩) hnd.1};{exact zK0 hnd.2 h1 h2}}
theorem Sim.lend {ps:PS}(h:Sim w0 S0 K0 N (zB ps.tmps) ps.objs a w S β){n t:Nat}{o:Obj'}{s:Nat}{els:Unit->List (List D)}(ho:yA ps.objs n=some o)(hr:oP o=some (s,els))(hf:fo n o (zB ps.tmps t)):∃ S' β',Sim w0 S0 K0 N (zB (vD ps.tmps t (Go.Proofs.YtfainocfaddbdaaGreat.frz n o (zB ps.tmps t)))) (Go.Proofs.YtfainocfaddbdaaGreat.setO ps.objs n (.log s els)) a w S' β':=by
 have hmem:=yW ho;have hsz:=zFA hr;have F:FrzAt w S (fun b i=>S b i\/(β n=some b/\i<szO o)) β n o:=⟨fun b i=>.inl,fun b h i hi=>.inr ⟨h,hi⟩,h.obj.at_ n o hmem,by cases o <;> first|rfl|cases hr⟩;have hpo:∀ i,qH o i->i<szO o:=fun i hi=>by cases o <;> first|exact hi.elim|exact hi
 have hnin:n∈ps.objs.map Prod.fst:=List.mem_map.2 ⟨_,hmem,rfl⟩;have h1:Sim w0 S0 K0 N (zB ps.tmps) (Go.Proofs.YtfainocfaddbdaaGreat.setO ps.objs n (.log s els)) a w (fun b i=>S b i\/(β n=some b/\i<szO o)) β:=by
  refine⟨h.dfr,h.sz,?_,fun t=>(h.tmp t).mono F.sub,⟨by rw[wW hnin];exact h.obj.nd,?_,?_,?_⟩,?_,?_⟩;{refine⟨h.ld.size,h.ld.os,h.ld.tape,h.ld.output,h.ld.same,h.ld.shape,?_,?_,?_⟩;{rintro b i (hS|hβ);{exact h.ld.bnd b i hS};{exact (h.obj.un n o b hmem (.inl hβ.1)).2}};{exact fun b i hb hS=>.inl (h.ld.sub b i hb hS)};{rintro b i hb hk (hS|hβ);{exact h.ld.old b i hb hk hS};{rcases h.own n o b hmem (.inl hβ.1) with h'|h';{omega};{exact absurd h' hk}}}};{intro m x hm;rcases xK h.obj.nd hnin hm with⟨rfl,rfl⟩|⟨_,h2⟩;{exact RowAt.mono (pE hr (h.obj.at_ _ o hmem)) F.sub};{exact (h.obj.at_ m x h2).mono F.sub}};{intro m x b hm hβ;rcases xK h.obj.nd hnin hm with⟨rfl,rfl⟩|⟨hne,h2⟩;{have hβ:=yS (by intro _ hi;exact hi) hβ;refine⟨?_,(h.obj.un _ o b hmem (.inl hβ)).2⟩;rintro i (hS|hS);{have:=hpo i ((h.obj.un _ o b hmem (.inl hβ)).1 i hS);rw[hsz] at this;exact this};{rw[hsz] at hS;exact hS.2}};{refine⟨?_,(h.obj.un m x b h2 hβ).2⟩;rintro i (hS|hS);{exact (h.obj.un m x b h2 hβ).1 i hS};{exact absurd (h.obj.inj _ _ _ _ b h2 hmem hβ (.inl hS.1)) hne}}}
  ·(intro m x m' x' b hm hm' hβ hβ';have key:∀ {m x},(m,x)∈Go.Proofs.YtfainocfaddbdaaGreat.setO ps.objs n (.log s els)->Own β m x b->∃ x',(m,x')∈ps.objs/\Own β m x' b:=by intro m x hm hb;rcases xK h.obj.nd hnin hm with⟨rfl,rfl⟩|⟨_,h2⟩;{exact⟨o,hmem,.inl (yS (by intro _ hi;exact hi) hb)⟩};{exact⟨x,h2,hb⟩});obtain⟨x1,h1,g1⟩:=key hm hβ;obtain⟨x2,h2,g2⟩:=key hm' hβ';exact h.obj.inj _ _ _ _ b h1 h2 g1 g2
  {intro m x b hm hβ;rcases xK h.obj.nd hnin hm with⟨rfl,rfl⟩|⟨_,h2⟩;{exact h.own _ o b hmem (.inl (yS (by intro _ hi;exact hi) hβ))};{exact h.own m x b h2 hβ}};{intro m x hm hb;rcases xK h.obj.nd hnin hm with⟨rfl,rfl⟩|⟨_,h2⟩;{exact h.keep _ o hmem hb};{exact h.keep m x h2 hb}}
 exact⟨_,β,h1.setT (frz2 F (h.tmp t) hf)⟩
theorem Sim.pub {ps:PS}(h:Sim w0 S0 K0 N (zB ps.tmps) ps.objs a w S β){n:Nat}{o:Obj'}{s:Nat}{els:Unit->List (List D)}(ho:yA ps.objs n=some o)(hr:oP o=some (s,els)):∃ S' β',Sim w0 S0 K0 N (zB ps.tmps) (Go.Proofs.YtfainocfaddbdaaGreat.setO ps.objs n (.lent s els)) a w S' β':=by
 have hmem:=yW ho;have hsz:=zFA hr;have F:FrzAt w S (fun b i=>S b i\/(β n=some b/\i<szO o)) β n o:=⟨fun b i=>.inl,fun b h i hi=>.inr ⟨h,hi⟩,h.obj.at_ n o hmem,by cases o <;> first|rfl|cases hr⟩;have hpo:∀ i,qH o i->i<szO o:=fun i hi=>by cases o <;> first|exact hi.elim|exact hi
 have hnin:n∈ps.objs.map Prod.fst:=List.mem_map.2 ⟨_,hmem,rfl⟩;have h1:Sim w0 S0 K0 N (zB ps.tmps) (Go.Proofs.YtfainocfaddbdaaGreat.setO ps.objs n (.lent s els)) a w (fun b i=>S b i\/(β n=some b/\i<szO o)) β:=by
  refine⟨h.dfr,h.sz,?_,fun t=>(h.tmp t).mono F.sub,⟨by rw[wW hnin];exact h.obj.nd,?_,?_,?_⟩,?_,?_⟩;{refine⟨h.ld.size,h.ld.os,h.ld.tape,h.ld.output,h.ld.same,h.ld.shape,?_,?_,?_⟩;{rintro b i (hS|hβ);{exact h.ld.bnd b i hS};{exact (h.obj.un n o b hmem (.inl hβ.1)).2}};{exact fun b i hb hS=>.inl (h.ld.sub b i hb hS)};{rintro b i hb hk (hS|hβ);{exact h.ld.old b i hb hk hS};{rcases h.own n o b hmem (.inl hβ.1) with h'|h';{omega};{exact absurd h' hk}}}};{intro m x hm;rcases xK h.obj.nd hnin hm with⟨rfl,rfl⟩|⟨_,h2⟩;{exact⟨RowAt.mono (pE hr (h.obj.at_ _ o hmem)) F.sub,fun b hb i hi=>F.new b hb i (by rw[hsz];exact hi)⟩};{exact (h.obj.at_ m x h2).mono F.sub}};{intro m x b hm hβ;rcases xK h.obj.nd hnin hm with⟨rfl,rfl⟩|⟨hne,h2⟩;{have hβ:=yS (by intro _ hi;exact hi) hβ;refine⟨?_,(h.obj.un _ o b hmem (.inl hβ)).2⟩;rintro i (hS|hS);{have:=hpo i ((h.obj.un _ o b hmem (.inl hβ)).1 i hS);rw[hsz] at this;exact this};{rw[hsz] at hS;exact hS.2}};{refine⟨?_,(h.obj.un m x b h2 hβ).2⟩;rintro i (hS|hS);{exact (h.obj.un m x b h2 hβ).1 i hS};{exact absurd (h.obj.inj _ _ _ _ b h2 hmem hβ (.inl hS.1)) hne}}}
  ·(intro m x m' x' b hm hm' hβ hβ';have key:∀ {m x},(m,x)∈Go.Proofs.YtfainocfaddbdaaGreat.setO ps.objs n (.lent s els)->Own β m x b->∃ x',(m,x')∈ps.objs/\Own β m x' b:=by intro m x hm hb;rcases xK h.obj.nd hnin hm with⟨rfl,rfl⟩|⟨_,h2⟩;{exact⟨o,hmem,.inl (yS (by intro _ hi;exact hi) hb)⟩};{exact⟨x,h2,hb⟩});obtain⟨x1,h1,g1⟩:=key hm hβ;obtain⟨x2,h2,g2⟩:=key hm' hβ';exact h.obj.inj _ _ _ _ b h1 h2 g1 g2
  {intro m x b hm hβ;rcases xK h.obj.nd hnin hm with⟨rfl,rfl⟩|⟨_,h2⟩;{exact h.own _ o b hmem (.inl (yS (by intro _ hi;exact hi) hβ))};{exact h.own m x b h2 hβ}};{intro m x hm hb;rcases xK h.obj.nd hnin hm with⟨rfl,rfl⟩|⟨_,h2⟩;{exact h.keep _ o hmem hb};{exact h.keep m x h2 hb}}
 exact⟨_,β,h1⟩
theorem Sim.setO (h:Sim w0 S0 K0 N τ objs a w S β){n:Nat}{x:Obj'}(hn:n∈objs.map Prod.fst)(hx:ObjAt w S β n x)(hpub:∀ o0,(n,o0)∈objs->∀ i,qH o0 i->qH x i)(hown:∀ o0,(n,o0)∈objs->∀ b,Own β n x b->Own β n o0 b):Sim w0 S0 K0 N τ (Go.Proofs.YtfainocfaddbdaaGreat.setO objs n x) a w S β:=by
 obtain⟨⟨n',o0⟩,hm0,rfl⟩:=List.mem_map.1 hn;have key:∀ {m o b},(m,o)∈Go.Proofs.YtfainocfaddbdaaGreat.setO objs n' x->Own β m o b->∃ o',(m,o')∈objs/\Own β m o' b:=by intro m o b hm hb;rcases xK h.obj.nd hn hm with⟨rfl,rfl⟩|⟨_,h2⟩;{exact⟨o0,hm0,hown o0 hm0 b hb⟩};{exact⟨o,h2,hb⟩}
 have key0:∀ {m o},(m,o)∈Go.Proofs.YtfainocfaddbdaaGreat.setO objs n' x->∃ o',(m,o')∈objs:=by intro m o hm;rcases xK h.obj.nd hn hm with⟨rfl,rfl⟩|⟨_,h2⟩;{exact⟨o0,hm0⟩};{exact⟨o,h2⟩}
 refine⟨h.dfr,h.sz,h.ld,h.tmp,⟨by rw[wW hn];exact h.obj.nd,?_,?_,?_⟩,?_,?_⟩;{intro m o hm;rcases xK h.obj.nd hn hm with⟨rfl,rfl⟩|⟨_,h2⟩;{exact hx};{exact h.obj.at_ m o h2}};{intro m o b hm hβ;rcases xK h.obj.nd hn hm with⟨rfl,rfl⟩|⟨_,h2⟩;{have hβ:=hown o0 hm0 b hβ;exact⟨fun i hS=>hpub o0 hm0 i ((h.obj.un _ o0 b hm0 hβ).1 i hS),(h.obj.un _ o0 b hm0 hβ).2⟩};{exact h.obj.un m o b h2 hβ}};{intro m o m' o' b hm hm' hβ hβ';obtain⟨x1,h1,g1⟩:=key hm hβ;obtain⟨x2,h2,g2⟩:=key hm' hβ';exact h.obj.inj _ _ _ _ b h1 h2 g1 g2};{intro m o b hm hβ;obtain⟨o',h1,g1⟩:=key hm hβ;exact h.own m o' b h1 g1};{intro m o hm hb;obtain⟨o',h1⟩:=key0 hm;exact h.keep m o' h1 hb}
theorem zB3 (cs:List PV)(j k:Nat)(x:PV)(hk:k<cs.length):(cs.set j x).getD k .any=if j=k then x else cs.getD k .any:=by simp only[List.getD_eq_getElem?_getD,List.getElem?_set];by_cases h:j=k;{subst h;simp[hk]};{simp[h]}
theorem pB {n:Nat}{v pv}(h:Rep w S β v pv):Rep w S β v (sc0 n pv):=by
 cases pv with
 |agg cs=>exact xM _| tup cs=>exact xM _| fn f cs=>exact xM _| ptr m off=>simp only[sc0];cases nqb m n <;> first|exact h|exact xM _
 |aptr m s i off=>simp only[sc0];cases nqb m n <;> first|exact h|exact xM _
 |osl m s i len=>simp only[sc0];cases nqb m n <;> first|exact h|exact xM _
 |_=>exact h
theorem zBG {n:Nat}{v pv}(h:Rep w S β v pv):Rep w S β v (sc1 n pv):=by
 cases pv with
 |agg cs =>
  obtain⟨vs,rfl,h1,h2⟩:=v5 h;exact .agg (by rw[zI];exact h1) fun j hj=>by rw[zI] at hj;rw[yB _ rfl];exact pB (h2 j hj)
 |tup cs =>
  obtain⟨vs,rfl,h1,h2⟩:=k8 h;exact .tup (by rw[zI];exact h1) fun j hj=>by rw[zI] at hj;rw[yB _ rfl];exact pB (h2 j hj)
 |fn f cs =>
  obtain⟨vs,rfl,h1,h2⟩:=k9 h;exact .fn (by rw[zI];exact h1) fun j hj=>by rw[zI] at hj;rw[yB _ rfl];exact pB (h2 j hj)
 |_=>exact pB (n:=n) h
theorem nX {n:Nat}{v pv}(h:Rep w S β v pv):Rep w S β v (scr n pv):=by
 cases pv with
 |agg cs =>
  obtain⟨vs,rfl,h1,h2⟩:=v5 h;exact .agg (by rw[zI];exact h1) fun j hj=>by rw[zI] at hj;rw[yB _ rfl];exact zBG (h2 j hj)
 |tup cs =>
  obtain⟨vs,rfl,h1,h2⟩:=k8 h;exact .tup (by rw[zI];exact h1) fun j hj=>by rw[zI] at hj;rw[yB _ rfl];exact zBG (h2 j hj)
 |fn f cs =>
  obtain⟨vs,rfl,h1,h2⟩:=k9 h;exact .fn (by rw[zI];exact h1) fun j hj=>by rw[zI] at hj;rw[yB _ rfl];exact zBG (h2 j hj)
 |_=>exact pB (n:=n) h
theorem aR (n:Nat):scr n .any=.any:=rfl
theorem Sim.drop {ps:PS}(h:Sim w0 S0 K0 N (zB ps.tmps) ps.objs a w S β)(n:Nat):Sim w0 S0 K0 N (zB (xZ (scr n) ps.tmps)) (yT (scr n) (xD ps.objs n)) a w S β:=by
 refine⟨h.dfr,h.sz,h.ld,fun t=>by rw[uI _ (aR n)];exact nX (h.tmp t),⟨?_,?_,?_,?_⟩,?_,?_⟩;{rw[kJ];exact (aI _ _).nodup h.obj.nd}
 ·intro m o' hm;obtain⟨o'',h1,h2⟩:=xP _ hm;obtain⟨h3,h4⟩:=xQ h1;have hat:=h.obj.at_ m o'' h3;cases o'' with
  |box cs =>
   subst h2;obtain⟨b,vs,T,e1,e2,e3,e4⟩:=hat;exact⟨b,vs,T,e1,e2,by rw[zI];exact e3,fun j hj=>by rw[zI] at hj;rw[yB _ (aR n)];exact nX (e4 j hj)⟩
  |arr s els=>subst h2;exact hat| log s els=>subst h2;exact hat| lent s els=>subst h2;exact hat| mat s rows hs=>subst h2;exact MatAt.map hat (fun _ _ h=>h) fun v x k hk hv=>nX hv
 {intro m o' b hm hβ;obtain⟨o'',h1,rfl⟩:=xP _ hm;have:=h.obj.un m o'' b (xQ h1).1 (wL hβ);exact⟨fun i hS=>d5 (this.1 i hS),this.2⟩};{intro m o' m' o'' b hm hm' hβ hβ';obtain⟨x,h1,rfl⟩:=xP _ hm;obtain⟨y,h2,rfl⟩:=xP _ hm';exact h.obj.inj _ _ _ _ b (xQ h1).1 (xQ h2).1 (wL hβ) (wL hβ')};{intro m o' b hm hβ;obtain⟨x,h1,rfl⟩:=xP _ hm;exact h.own m x b (xQ h1).1 (wL hβ)};{intro m o' hm hb;obtain⟨x,h1,_⟩:=xP _ hm;exact h.keep m x (xQ h1).1 hb}
theorem Sim.adopt {ps:PS}(h:Sim w0 S0 K0 N (zB ps.tmps) ps.objs a w S β){n s m j:Nat}{cs:List PV}{O:Obj'}(hO:∀ β':Bm,β' n=none->ObjAt w S β' n O)(hr:∀ i,¬wD O i)(hf:yH n ps=true)(ho:yA ps.objs m=some (.box cs))(hj:cs[j]?=some .nil):∃ S' β',Sim w0 S0 K0 N (zB ps.tmps) (Go.Proofs.YtfainocfaddbdaaGreat.setO ps.objs m (.box (cs.set j (.osl n s (fun _=>0) (fun _=>0))))++[(n,O)]) a w S' β':=by
 have hmem:=yW ho;have hf':=hf;simp only[yH,Bool.and_eq_true] at hf';have hmn:=(yC hf'.2 hmem).1;have h1:=h.freshO hf hO hr;obtain⟨b,vs,T,e1,e2,e3,e4⟩:=h.obj.at_ m _ hmem;have hin:m∈(ps.objs++[(n,O)]).map Prod.fst:=by rw[List.map_append];exact List.mem_append_left _ (List.mem_map.2 ⟨_,hmem,rfl⟩)
 have hjl:j<cs.length:=by rcases Nat.lt_or_ge j cs.length with h'|h';{exact h'};{rw[List.getElem?_eq_none h'] at hj;cases hj}
 have h2:=h1.setO (n:=m) (x:=.box (cs.set j (.osl n s (fun _=>0) (fun _=>0)))) hin ⟨b,vs,T,by rw[xW hmn];exact e1,e2,by simpa using e3,fun k hk=>by
  simp only[List.length_set] at hk;rw[zB3 _ _ _ _ hk];by_cases hjk:j=k
  ·(subst hjk;rw[if_pos rfl];have:=e4 j hk;have hg:cs.getD j .any=.nil:=by rw[List.getD_eq_getElem?_getD,hj];rfl);rw[hg] at this
   have hv:=kC this;rw[hv];exact .osl0 yL rfl rfl
  ·rw[if_neg hjk];exact (e4 k hk).upd (y7 rfl (yC hf'.2 hmem).2 k)⟩ (fun o0 ho0 i hp=>by
  have hms:(m,Obj'.box cs)∈ps.objs++[(n,O)]:=List.mem_append_left _ hmem;have:=zK0 h1.obj.nd ho0 hms;rw[this] at hp;exact hp.elim) (fun o0 _ b hb=>.inl (yS (by intro _ hi;exact hi) hb))
 refine⟨S,vK β n none,?_⟩;have:Go.Proofs.YtfainocfaddbdaaGreat.setO (ps.objs++[(n,O)]) m (.box (cs.set j (.osl n s (fun _=>0) (fun _=>0))))=Go.Proofs.YtfainocfaddbdaaGreat.setO ps.objs m (.box (cs.set j (.osl n s (fun _=>0) (fun _=>0))))++[(n,O)]:=by
  have gen:∀ (l:List (Nat×Obj')) (k:List (Nat×Obj')) (x:Obj'),m∈l.map Prod.fst->Go.Proofs.YtfainocfaddbdaaGreat.setO (l++k) m x=Go.Proofs.YtfainocfaddbdaaGreat.setO l m x++k:=by
   intro l k x hm;induction l with
   |nil=>simp at hm| cons p r ih =>
    obtain⟨u,v⟩:=p;simp only[List.cons_append,Go.Proofs.YtfainocfaddbdaaGreat.setO];cases hu:nqb u m with
    |true=>rfl| false =>
     (have hne:u≠m:=fun e=>by subst e;simp at hu);simp only[List.map_cons,List.mem_cons] at hm
     simp only[cond_false,List.cons_append];rw[ih (hm.resolve_left fun e=>hne e.symm)]
  exact gen _ _ _ (List.mem_map.2 ⟨_,hmem,rfl⟩)
 rw[this] at h2;exact h2
theorem b9 (f:PV->PV):∀ (l k:List (PV×(Unit->Nat))),qS f (l++k)=qS f l++qS f k
 |[],k=>rfl| (v,i)::r,k=>by simp only[List.cons_append,qS,b9 f r k]
theorem Sim.focus {ps:PS}(h:Sim w0 S0 K0 N (zB ps.tmps) ps.objs a w S β){n k:Nat}{i:Unit->Nat}{s:Nat}{rows:Unit->List (List (List D))}{hs:List (PV×(Unit->Nat))}(ho:yA ps.objs n=some (.mat s rows hs))(hf:yH k ps=true)(hi:FocOk i rows hs):Sim w0 S0 K0 N (zB ps.tmps) (Go.Proofs.YtfainocfaddbdaaGreat.setO ps.objs n (.mat s rows ((.osl k s (fun _=>0) (fun _=>((rows ()).getD (i ()) []).length),i)::hs))++[(k,.arr s (fun _=>(rows ()).getD (i ()) []))]) a w S (vK β k (β.r n (i ()))):=by
 have hmem:=yW ho;simp only[yH,Bool.and_eq_true] at hf;obtain⟨hil,hih⟩:=hi.h;have hnk:n≠k:=(yC hf.2 hmem).1;have hM:MatAt w S β n s rows hs:=h.obj.at_ n _ hmem;have hri:wD (.mat s rows hs) (i ()):=⟨hil,hih⟩;have hnin:n∈ps.objs.map Prod.fst:=List.mem_map.2 ⟨_,hmem,rfl⟩;obtain⟨b0,vs,T,hβ,hb,hsz,hhs,hrs⟩:∃ (b:Nat) (vs:Array Value) (T:TypeId),β n=some b/\w.heap[b]?=some (.cells vs T (0,0))/\(rows ()).length<=vs.size /\
   (∀ v k,(v,k)∈hs->k ()<(rows ()).length/\Rep w S β (vs.getD (k ()) undef) v)/\∀ i,wD (.mat s rows hs) i->RowIn w S (β.r n i) (vs.getD i undef) s ((rows ()).getD i []):=by
  rcases hM.pl with⟨_,h2,_⟩|h2;{rw[h2] at hil;simp at hil};{exact h2}
 have hrow:=hrs _ hri;have hsub:∀ {j},wD (.mat s rows ((.osl k s (fun _=>0) (fun _=>((rows ()).getD (i ()) []).length),i)::hs)) j->wD (.mat s rows hs) j/\j≠i () :=
  fun hj=>⟨⟨hj.1,fun v k' hk'=>hj.2 v k' (List.mem_cons_of_mem _ hk')⟩,fun e=>hj.2 _ i List.mem_cons_self e.symm⟩
 have key:∀ {m o},(m,o)∈Go.Proofs.YtfainocfaddbdaaGreat.setO ps.objs n (.mat s rows ((.osl k s (fun _=>0) (fun _=>((rows ()).getD (i ()) []).length),i)::hs))++[(k,Obj'.arr s (fun _=>(rows ()).getD (i ()) []))] ->
   (m=n/\o=.mat s rows ((.osl k s (fun _=>0) (fun _=>((rows ()).getD (i ()) []).length),i)::hs))\/(m≠n/\m≠k/\(m,o)∈ps.objs)\/(m=k/\o=.arr s (fun _=>(rows ()).getD (i ()) [])):=by
  intro m o hm;rcases List.mem_append.1 hm with hm|hm;{rcases xK h.obj.nd hnin hm with h1|⟨h1,h2⟩;{exact .inl h1};{exact .inr (.inl ⟨h1,(yC hf.2 h2).1,h2⟩)}};{simp only[List.mem_singleton,Prod.mk.injEq] at hm;exact .inr (.inr hm)}
 
 have own:∀ {m o b},(m,o)∈Go.Proofs.YtfainocfaddbdaaGreat.setO ps.objs n (.mat s rows ((.osl k s (fun _=>0) (fun _=>((rows ()).getD (i ()) []).length),i)::hs))++[(k,Obj'.arr s (fun _=>(rows ()).getD (i ()) []))]->Own (vK β k (β.r n (i ()))) m o b ->
   (m=n/\Own β n (.mat s rows hs) b/\β.r n (i ())≠some b)\/(m≠n/\m≠k/\(m,o)∈ps.objs/\Own β m o b)\/(m=k/\β.r n (i ())=some b):=by
  intro m o b hm hb';rcases key hm with⟨rfl,rfl⟩|⟨h1,h2,h3⟩|⟨rfl,rfl⟩;{refine .inl ⟨rfl,?_⟩;rcases hb' with e|⟨j,hj,e⟩;{rw[xW hnk] at e;exact⟨.inl e,fun e'=>hM.ne _ _ hri e' e⟩};{have e:β.r m j=some b:=e;exact⟨.inr ⟨j,(hsub hj).1,e⟩,fun e'=>(hsub hj).2 (hM.inj _ _ _ (hsub hj).1 hri e e')⟩}};{exact .inr (.inl ⟨h1,h2,h3,x5 h2 hb'⟩)};{have:=yS (by intro _ hi;exact hi) hb';rw[yL] at this;exact .inr (.inr ⟨rfl,this⟩)}
 refine⟨h.dfr,h.sz,h.ld,fun t=>(h.tmp t).upd (x4 hf.1 t),⟨?_,?_,?_,?_⟩,?_,?_⟩;{rw[List.map_append,List.nodup_append,wW hnin];refine⟨h.obj.nd,by simp,?_⟩;intro x hx y hy e;simp at hy;subst hy e;obtain⟨⟨m,o⟩,h1,rfl⟩:=List.mem_map.1 hx;exact (yC hf.2 h1).1 rfl}
 ·intro m o hm;rcases key hm with⟨rfl,rfl⟩|⟨h1,h2,h3⟩|⟨rfl,rfl⟩
  ·refine⟨.inr ⟨b0,vs,T,by rw[xW hnk];exact hβ,hb,hsz,?_,fun j hj=>hrs j (hsub hj).1⟩,fun j j' b hj hj'=>hM.inj j j' b (hsub hj).1 (hsub hj').1,fun j b hj e=>by rw[xW hnk];exact hM.ne j b (hsub hj).1 e⟩;intro v k' hk';rcases List.mem_cons.1 hk' with e|hk'
   ·(cases e;refine⟨hil,?_⟩;rcases hrow with⟨e1,e2,aa,e3⟩|⟨b,cap,us,T',e1,e2,e3,e4,e5,_⟩);{rw[e3];exact .osl0 (by rw[yL];exact e1) rfl (by show ((rows ()).getD (i ()) []).length=0;rw[e2];rfl)}
    {rw[e2];have:=Rep.osl (w:=w) (S:=S) (β:=vK β k (β.r m (i ()))) (n:=k) (s:=s) (cap:=cap) (b:=b) (o:=fun _=>0) (len:=fun _=>((rows ()).getD (i ()) []).length) (by rw[yL];exact e1) e3 e4 (by simpa using e5);simpa using this}
   {exact⟨(hhs v k' hk').1,(hhs v k' hk').2.upd (gE (yC hf.2 hmem).2 hk')⟩}
  {exact (h.obj.at_ m o h3).upd h2 (yC hf.2 h3).2};{rcases hrow with⟨e1,e2,_⟩|⟨b,cap,us,T',e1,_,e3,e4,e5,e6,e7⟩;{exact .inl ⟨by rw[yL];exact e1,e2⟩};{exact .inr ⟨b,us,T',by rw[yL];exact e1,e4,Nat.le_trans (Nat.mul_le_mul_right _ e3) e5,e6,e7⟩}}
 {intro m o b hm hb';rcases own hm hb' with⟨rfl,h1,_⟩|⟨_,_,h3,h4⟩|⟨rfl,h1⟩;{refine⟨fun j hS=>(h.obj.un _ _ b hmem h1).1 j hS |>.elim,(h.obj.un _ _ b hmem h1).2⟩};{exact h.obj.un m o b h3 h4};{refine⟨fun j hS=>(h.obj.un _ _ b hmem (.inr ⟨_,hri,h1⟩)).1 j hS |>.elim,(h.obj.un _ _ b hmem (.inr ⟨_,hri,h1⟩)).2⟩}}
 ·(intro m o m' o' b hm hm' hb1 hb2;rcases own hm hb1 with⟨rfl,h1,g1⟩|⟨h2,_,h3,h4⟩|⟨rfl,h1⟩ <;> rcases own hm' hb2 with⟨rfl,h1',g1'⟩|⟨h2',_,h3',h4'⟩|⟨rfl,h1'⟩);{rfl}
  {exact h.obj.inj _ _ _ _ b hmem h3' h1 h4'};{exact absurd h1' g1};{exact h.obj.inj _ _ _ _ b h3 hmem h4 h1'};{exact h.obj.inj _ _ _ _ b h3 h3' h4 h4'};{exact absurd (h.obj.inj _ _ _ _ b h3 hmem h4 (.inr ⟨_,hri,h1'⟩)) h2};{exact absurd h1 g1'};{exact absurd (h.obj.inj _ _ _ _ b h3' hmem h4' (.inr ⟨_,hri,h1⟩)) h2'};{rfl}
 {intro m o b hm hb';rcases own hm hb' with⟨rfl,h1,_⟩|⟨_,_,h3,h4⟩|⟨rfl,h1⟩;{exact h.own _ _ b hmem h1};{exact h.own m o b h3 h4};{exact h.own _ _ b hmem (.inr ⟨_,hri,h1⟩)}};{intro m o hm hb';rcases key hm with⟨rfl,rfl⟩|⟨h1,h2,h3⟩|⟨rfl,rfl⟩;{rw[xW hnk];exact h.keep _ _ hmem hb'};{rw[xW h2];exact h.keep m o h3 hb'};{have:=wJ hf.2;omega}}
def updR (β:Bm) (n i:Nat) (x:Option Nat):Bm:=⟨β.o,fun m j=>if m=n/\j=i then x else β.r m j⟩
theorem rZ {β:Bm}{n i:Nat}{x:Option Nat}:(updR β n i x).r n i=x:=by simp[updR]
theorem qY {β:Bm}{n i m j:Nat}{x:Option Nat}(h:m≠n\/j≠i):(updR β n i x).r m j=β.r m j:=by show (if m=n/\j=i then x else β.r m j)=β.r m j;rw[if_neg (by rintro⟨h1,h2⟩;rcases h with h|h <;> contradiction)]
theorem ObjAt.updR {n i:Nat}{x:Option Nat}{m:Nat}{o:Obj'}(h:ObjAt w S β m o)(hm:m≠n):ObjAt w S (updR β n i x) m o:=by
 have hp:∀ {v pv},Rep w S β v pv->Rep w S (Go.Proofs.YtfainocfaddbdaaGreat.updR β n i x) v pv:=fun h=>Rep.place (β:=β) (βf:=Go.Proofs.YtfainocfaddbdaaGreat.updR β n i x) (fun _=>rfl) h;cases o with
 |box cs =>
  obtain⟨b,vs,T,e1,e2,e3,e4⟩:=h;exact⟨b,vs,T,e1,e2,e3,fun j hj=>hp (e4 j hj)⟩
 |arr s els=>exact h| log s els=>exact h| lent s els=>exact h| mat s rows hs =>
  obtain⟨h1,h2,h3⟩:=h;refine⟨?_,fun j j' b hj hj'=>by rw[qY (.inl hm),qY (.inl hm)];exact h2 j j' b hj hj',fun j b hj=>by rw[qY (.inl hm)];exact h3 j b hj⟩;rcases h1 with h1|⟨b,vs,T,e1,e2,e3,e4,e5⟩;{exact .inl h1};{exact .inr ⟨b,vs,T,e1,e2,e3,fun v k hk=>⟨(e4 v k hk).1,hp (e4 v k hk).2⟩,fun j hj=>by rw[qY (.inl hm)];exact e5 j hj⟩}
theorem Sim.rowIn {objs:List (Nat×Obj')}(h:Sim w0 S0 K0 N τ objs a w S β){n s:Nat}{rows:Unit->List (List (List D))}{hs1 hs2:List (PV×(Unit->Nat))}{v0:PV}{i:Unit->Nat}(hmem:(n,Obj'.mat s rows (hs1++(v0,i)::hs2))∈objs) {x:Option Nat} {els:List (List D)} (hx:∀ b vs T,β n=some b->w.heap[b]?=some (.cells vs T (0,0))->RowIn w S x (vs.getD (i ()) undef) s els) (hfree:∀ b,x=some b->(∀ m o,(m,o)∈objs->¬Own β m o b)/\(w0.heap.size<=b\/K0 b)/\b<w.heap.size/\∀ j,¬S b j):Sim w0 S0 K0 N τ (Go.Proofs.YtfainocfaddbdaaGreat.setO objs n (.mat s (fun _=>(rows ()).set (i ()) els) (hs1++hs2))) a w S (updR β n (i ()) x):=by
 have hM:MatAt w S β n s rows (hs1++(v0,i)::hs2):=h.obj.at_ n _ hmem;have hnin:n∈objs.map Prod.fst:=List.mem_map.2 ⟨_,hmem,rfl⟩;have hp:∀ {v pv},Rep w S β v pv->Rep w S (updR β n (i ()) x) v pv:=fun h=>Rep.place (β:=β) (βf:=updR β n (i ()) x) (fun _=>rfl) h;have hin:∀ {v k},(v,k)∈hs1++hs2->(v,k)∈hs1++(v0,i)::hs2:=fun hk=>by rcases List.mem_append.1 hk with h'|h';{exact List.mem_append_left _ h'};{exact List.mem_append_right _ (List.mem_cons_of_mem _ h')}
 obtain⟨b0,vs,T,hβ,hb,hsz,hhs,hrs⟩:∃ (b:Nat) (vs:Array Value) (T:TypeId),β n=some b/\w.heap[b]?=some (.cells vs T (0,0))/\(rows ()).length<=vs.size /\
   (∀ v k,(v,k)∈hs1++(v0,i)::hs2->k ()<(rows ()).length/\Rep w S β (vs.getD (k ()) undef) v)/\∀ j,wD (.mat s rows (hs1++(v0,i)::hs2)) j->RowIn w S (β.r n j) (vs.getD j undef) s ((rows ()).getD j []):=by
  rcases hM.pl with⟨_,_,h2⟩|h2;{simp at h2};{exact h2}
 have hil:i ()<(rows ()).length:=(hhs v0 i (List.mem_append_right _ List.mem_cons_self)).1;have hrow:∀ {j},wD (.mat s (fun _=>(rows ()).set (i ()) els) (hs1++hs2)) j->j≠i ()->wD (.mat s rows (hs1++(v0,i)::hs2)) j:=by intro j hj hne;refine⟨by simpa using hj.1,fun v k hk=>?_⟩;rcases List.mem_append.1 hk with h'|h';{exact hj.2 v k (List.mem_append_left _ h')};{rcases List.mem_cons.1 h' with e|h';{cases e;exact fun e=>hne e.symm};{exact hj.2 v k (List.mem_append_right _ h')}}
 have key:∀ {m o},(m,o)∈Go.Proofs.YtfainocfaddbdaaGreat.setO objs n (.mat s (fun _=>(rows ()).set (i ()) els) (hs1++hs2))->(m=n/\o=.mat s (fun _=>(rows ()).set (i ()) els) (hs1++hs2))\/(m≠n/\(m,o)∈objs):=fun hm=>xK h.obj.nd hnin hm;have own:∀ {m o b},(m,o)∈Go.Proofs.YtfainocfaddbdaaGreat.setO objs n (.mat s (fun _=>(rows ()).set (i ()) els) (hs1++hs2))->Own (updR β n (i ()) x) m o b->(m=n/\x=some b)\/∃ o',(m,o')∈objs/\Own β m o' b/\(m≠n->o'=o):=by intro m o b hm hb';rcases key hm with⟨rfl,rfl⟩|⟨h1,h2⟩;{rcases hb' with e|⟨j,hj,e⟩;{exact .inr ⟨_,hmem,.inl e,fun h=>absurd rfl h⟩};{by_cases hji:j=i ();{subst hji;rw[rZ] at e;exact .inl ⟨rfl,e⟩};{rw[qY (.inr hji)] at e;exact .inr ⟨_,hmem,.inr ⟨j,hrow hj hji,e⟩,fun h=>absurd rfl h⟩}}};{refine .inr ⟨o,h2,?_,fun _=>rfl⟩;rcases hb' with e|⟨j,hj,e⟩;{exact .inl e};{rw[qY (.inl h1)] at e;exact .inr ⟨j,hj,e⟩}}
 refine⟨h.dfr,h.sz,h.ld,fun t=>hp (h.tmp t),⟨by rw[wW hnin];exact h.obj.nd,?_,?_,?_⟩,?_,?_⟩
 ·intro m o hm;rcases key hm with⟨rfl,rfl⟩|⟨h1,h2⟩
  ·refine⟨.inr ⟨b0,vs,T,hβ,hb,by simpa using hsz,fun v k hk=>⟨by simpa using (hhs v k (hin hk)).1,hp (hhs v k (hin hk)).2⟩,fun j hj=>?_⟩,?_,?_⟩
   ·by_cases hji:j=i ()
    ·(subst hji;rw[rZ];have:((rows ()).set (i ()) els).getD (i ()) []=els:=by simp[List.getD_eq_getElem?_getD,hil]);show RowIn w S x (vs.getD (i ()) undef) s (((rows ()).set (i ()) els).getD (i ()) [])
     rw[this];exact hx b0 vs T hβ hb
    ·(rw[qY (.inr hji)];have:((rows ()).set (i ()) els).getD j []=(rows ()).getD j []:=by rw[List.getD_eq_getElem?_getD,List.getElem?_set,if_neg (fun e=>hji e.symm),<-List.getD_eq_getElem?_getD]);show RowIn w S _ (vs.getD j undef) s (((rows ()).set (i ()) els).getD j [])
     rw[this];exact hrs j (hrow hj hji)
   ·(intro j j' b hj hj' e e';by_cases hji:j=i () <;> by_cases hji':j'=i ());{rw[hji,hji']}
    {subst hji;rw[rZ] at e;rw[qY (.inr hji')] at e';exact absurd (.inr ⟨j',hrow hj' hji',e'⟩) ((hfree b e).1 m _ hmem)};{subst hji';rw[rZ] at e';rw[qY (.inr hji)] at e;exact absurd (.inr ⟨j,hrow hj hji,e⟩) ((hfree b e').1 m _ hmem)};{rw[qY (.inr hji)] at e;rw[qY (.inr hji')] at e';exact hM.inj j j' b (hrow hj hji) (hrow hj' hji') e e'}
   {intro j b hj e e';by_cases hji:j=i ();{subst hji;rw[rZ] at e;exact (hfree b e).1 m _ hmem (.inl e')};{rw[qY (.inr hji)] at e;exact hM.ne j b (hrow hj hji) e e'}}
  {exact (h.obj.at_ m o h2).updR h1}
 {intro m o b hm hb';rcases own hm hb' with⟨rfl,e⟩|⟨o',h1,h2,h3⟩;{exact⟨fun j hS=>absurd hS ((hfree b e).2.2.2 j),(hfree b e).2.2.1⟩};{refine⟨fun j hS=>?_,(h.obj.un m o' b h1 h2).2⟩;have h4:=(h.obj.un m o' b h1 h2).1 j hS;by_cases hmn:m=n;{subst hmn;have:=zK0 h.obj.nd h1 hmem;rw[this] at h4;exact h4.elim};{rw[<-h3 hmn];exact h4}}}
 ·(intro m o m' o' b hm hm' hb1 hb2;rcases own hm hb1 with⟨rfl,e⟩|⟨o1,h1,h2,_⟩ <;> rcases own hm' hb2 with⟨rfl,e'⟩|⟨o2,h1',h2',_⟩);{rfl}
  {exact absurd h2' ((hfree b e).1 _ _ h1')};{exact absurd h2 ((hfree b e').1 _ _ h1)};{exact h.obj.inj _ _ _ _ b h1 h1' h2 h2'}
 {intro m o b hm hb';rcases own hm hb' with⟨rfl,e⟩|⟨o',h1,h2,_⟩;{exact (hfree b e).2.1};{exact h.own m o' b h1 h2}};{intro m o hm hb';rcases key hm with⟨rfl,rfl⟩|⟨h1,h2⟩;{exact h.keep _ _ hmem hb'};{exact h.keep m o h2 hb'}}
theorem d9:∀ {l:List (Nat×Obj')} {n m:Nat} {o:Obj'},(m,o)∈l->m≠n->(m,o)∈xD l n
 |(u,v)::r,n,m,o,hm,hne=>by
  simp only[xD];cases hu:nqb u n with
  |true =>
   rcases List.mem_cons.1 hm with e|hm;{cases e;exact absurd (yG hu) hne};{exact d9 hm hne}
  |false =>
   rcases List.mem_cons.1 hm with e|hm;{cases e;exact List.mem_cons_self};{exact List.mem_cons_of_mem _ (d9 hm hne)}
theorem d8 (f:PV->PV):∀ {l:List (Nat×Obj')} {n:Nat} {o:Obj'},(n,o)∈l->(n,xE f o)∈yT f l
 |(u,v)::r,n,o,hm=>by rcases List.mem_cons.1 hm with e|hm;{cases e;cases v <;> exact List.mem_cons_self};{have:=d8 f hm;cases v <;> exact List.mem_cons_of_mem _ this}
theorem Sim.unfocus {ps:PS}(h:Sim w0 S0 K0 N (zB ps.tmps) ps.objs a w S β){n k:Nat}{hs1 hs2:List (PV×(Unit->Nat))}{s:Nat}{rows:Unit->List (List (List D))}{i o len:Unit->Nat}{els:Unit->List (List D)}(ho:yA ps.objs n=some (.mat s rows (hs1++(.osl k s o len,i)::hs2)))(hk:yA ps.objs k=some (.arr s els))(hne:nqb n k=false)(h0:o ()=0/\len ()=(els ()).length):Sim w0 S0 K0 N (zB (xZ (scr k) ps.tmps)) (Go.Proofs.YtfainocfaddbdaaGreat.setO (yT (scr k) (xD ps.objs k)) n (.mat s (fun _=>(rows ()).set (i ()) (els ())) (qS (scr k) (hs1++hs2)))) a w S (updR β n (i ()) (β k)):=by
 have hnk:n≠k:=fun e=>by subst e;simp at hne
 have hmem:=yW ho;have hmk:=yW hk;have hR:RowAt w S β k s els:=h.obj.at_ k _ hmk;have hM:MatAt w S β n s rows (hs1++(.osl k s o len,i)::hs2):=h.obj.at_ n _ hmem;have hin:(n,Obj'.mat s rows (qS (scr k) hs1++(scr k (.osl k s o len),i)::qS (scr k) hs2))∈yT (scr k) (xD ps.objs k):=by have:=d8 (scr k) (d9 hmem hnk);simp only[xE,b9,qS] at this;exact this
 rw[b9];refine Sim.rowIn (h.drop k) hin ?_ ?_
 ·intro b vs T hb hw;rcases hM.pl with⟨_,_,h2⟩|⟨b',vs',T',e1,e2,_,e4,_⟩;{simp at h2}
  ·(rw[hb] at e1;cases e1;rw[hw] at e2;cases e2;have hr:=(e4 _ i (List.mem_append_right _ List.mem_cons_self)).2;generalize vs.getD (i ()) undef=v at hr ⊢;rcases hR with⟨e5,e6⟩|⟨bk,us,Tk,e5,e6,e7,e8,e9⟩);{refine .inl ⟨e5,e6,?_⟩;rcases vC hr with⟨_,_,_,aa,hv⟩|⟨b1,cap,us1,T1,g1,_⟩;{exact⟨aa,hv⟩};{rw[e5] at g1;cases g1}}
   {rcases vC hr with⟨g1,_⟩|⟨b1,cap,us1,T1,g1,g3,g4,g5,hv⟩;{rw[e5] at g1;cases g1};{rw[e5] at g1;cases g1;rw[e6] at g4;cases g4;rw[h0.1] at hv g5;refine .inr ⟨bk,cap,us,Tk,e5,by rw[hv,<-h0.2];simp,by rw[<-h0.2];exact g3,e6,by simpa using g5,e8,e9⟩}}
 {intro b hb;have hob:Own β k (.arr s els) b:=.inl hb;refine⟨fun m o' hm hb'=>?_,h.own k _ b hmk hob,(h.obj.un k _ b hmk hob).2,fun j hS=>(h.obj.un k _ b hmk hob).1 j hS⟩;obtain⟨o'',h1,rfl⟩:=xP _ hm;obtain⟨h3,h4⟩:=xQ h1;exact h4 (h.obj.inj _ _ _ _ b h3 hmk (wL hb') hob)}
theorem Wk.sound {ps ps':PS}(k:Wk ps ps'):∀ {S β},Sim w0 S0 K0 N (zB ps.tmps) ps.objs a w S β->∃ S' β',Sim w0 S0 K0 N (zB ps'.tmps) ps'.objs a w S' β':=by
 induction k with
 |refl ps=>intro S β h;exact⟨S,β,h⟩| le ht ho hn=>intro S β h;exact⟨S,β,h.le ht ho hn⟩| frz n ho hc hT hO=>intro S β h;exact h.frz ho hc hT hO| lend n t ho hr hf=>intro S β h;exact h.lend ho hr hf| pub n ho hr=>intro S β h;exact h.pub ho hr| fresh n s hf=>intro S β h;exact⟨S,vK β n none,h.fresh hf⟩| drop n=>intro S β h;exact⟨S,β,h.drop n⟩| adoptT n s t hf ht =>
  intro S β h;refine⟨S,vK β n none,(h.fresh hf).setT ?_⟩;have:=h.tmp t;obtain⟨⟨av,hv⟩,_⟩:=iE ht this;rw[hv];exact .osl0 yL rfl rfl
 |adoptB n s m j hf ho hj=>intro S β h;exact h.adopt (fun β' h=>.inl ⟨h,rfl⟩) (fun _ hi=>hi) hf ho hj| adoptM n s m j hf ho hj=>intro S β h;exact h.adopt (fun β' h=>⟨.inl ⟨h,rfl,rfl⟩,fun i j b hi=>absurd hi.1 (by simp),fun i b hi=>absurd hi.1 (by simp)⟩) (fun _ hi=>absurd hi.1 (by simp)) hf ho hj| focus n k i ho hf hi=>intro S β h;exact⟨S,_,h.focus ho hf hi⟩| unfocus n k hs1 hs2 ho hk hne h0=>intro S β h;exact⟨S,_,h.unfocus ho hk hne h0⟩| trans _ _ ih1 ih2=>intro S β h;obtain⟨S',β',h'⟩:=ih1 h;exact ih2 h'
theorem zHS (h:Sim w0 S0 K0 N τ objs a w S β){pv:PV}{v:Value}{K:PV->Prop}(hl:ldV objs pv K)(hr:Rep w S β v pv):∃ pv',K pv'/\Rep w S β v pv':=by
 unfold ldV at hl;cases hn:lnt objs pv with
 |false=>rw[hn] at hl;exact⟨pv,hl,hr⟩| true =>
  rw[hn] at hl;rcases hl.h with hK|⟨n,s,els,h1,h2,h3⟩;{exact⟨pv,hK,hr⟩};{have hat:=h.obj.at_ n _ (yW h1);exact⟨_,h3,frz2 (S':=S) (o:=.lent s els) ⟨fun _ _ x=>x,fun b hb i hi=>hat.2 b hb i hi,hat,rfl⟩ hr h2⟩}
theorem t7 {o:Oper}{K:PV->Prop}{Km:Act->World->Prop}{Q:Exit->Act->World->Prop}(h:Sim w0 S0 K0 N τ objs a w S β)(hs:sop objs o.op (ev τ) K) (hk:∀ pv w' S' v,K pv->Leads w S vG w' S'->Rep w' S' β v pv->Km (a.put o.dst v) w'):o.wp Pg a w Km Q:=by
 have he:∀ x,Rep w S β (a.eval x) (ev τ x):=fun x=>h.eval x;have hrefl:Leads w S vG w S:=Leads.refl h.ld.bnd;have fin:∀ pv v,(execOp a.eval o).run Pg w=.ok (.value v) w->K pv->Rep w S β v pv->o.wp Pg a w Km Q:=fun pv v h1 h2 h3=>uQ h1 (hk pv w S v h2 hrefl h3);unfold sop at hs;split at hs;{rename_i x hop;exact fin _ _ (by simp[execOp,hop]) hs (he x)};{rename_i x hop;exact fin _ _ (by simp[execOp,hop]) hs (he x)}
 ·rename_i c x y hop;obtain⟨b,hb,ht,hf⟩:=mZ (he c) hs;cases b with
  |true=>exact fin _ _ (by simp[execOp,hop,hb,asBool]) (ht rfl) (he x)| false=>exact fin _ _ (by simp[execOp,hop,hb,asBool]) (hf rfl) (he y)
 {rename_i t parts hop;split at hs;{rename_i n fs z ht;split at hs;{rename_i cs hf;obtain⟨vs,h1,h2⟩:=zA4 ht he hf;exact fin _ _ (by simp[execOp,hop,h1]) hs (.agg h2.1 h2.2)};{exact hs.elim}};{rename_i len n ag z ht;split at hs;{rename_i cs hf;obtain⟨vs,h1,h2⟩:=oO ht he hf;exact fin _ _ (by simp[execOp,hop,h1]) hs (.agg h2.1 h2.2)};{exact hs.elim}};{exact hs.elim}}
 ·rename_i t len parts hop;split at hs
  ·rename_i n b z ht;split at hs
   ·rename_i els hf;cases hc:(nle (len*n) 1000&&bJ els) with
    |false=>simp[hc] at hs| true =>
     simp only[hc,cond_true] at hs;simp only[Bool.and_eq_true] at hc;obtain⟨w',S',v,h1,h2,h3⟩:=iB ht h.ld.bnd he hf (b7 hc.1) hc.2;exact uQ (by simp[execOp,hop,h1]) (hk _ _ _ _ hs h2 h3)
   {exact hs.elim}
  {exact hs.elim}
 ·rename_i t x hop;split at hs;{rename_i cs off hx;have hr:=he x;rw[hx] at hr;obtain⟨b,o',vals,hS,hv,hf,hc,hrr⟩:=fL hr;obtain⟨pv,val,h1,h2,h3⟩:=dZ (w:=w) (S:=S) (β:=β) hs vals hc (zA5 hf hrr);exact fin pv val (by simp[execOp,hop,hv,h2]) h1 h3};{rename_i n off hx;split at hs;{rename_i cs ho;have hr:=he x;rw[hx] at hr;obtain⟨b,hβ,hv⟩:=uM hr;obtain⟨b',vs,T,hβ',hb,hsz,hrr⟩:=zBM h ho;rw[hβ] at hβ';cases hβ';obtain⟨pv,val,h1,h2,h3⟩:=dZ (w:=w) (S:=S) (β:=β) (b:=b) (o:=0) hs (fun j=>vs.getD j undef) (fun j hj=>by rw[Nat.zero_add];exact vP hb j (by omega)) hrr;obtain⟨pv',h1',h3'⟩:=zHS h h1 h3;exact fin pv' val (by rw[Nat.zero_add] at h2;simp[execOp,hop,hv,h2]) h1' h3'};{exact hs.elim}}
  ·rename_i n s i off hx;split at hs
   ·rename_i s' els ho;cases hss:nqb s s' with
    |false=>simp[hss] at hs| true =>
     (simp only[hss,cond_true] at hs;have:=yG hss;subst this;obtain⟨c,hcf,hcl,hck,hK⟩:=hs.h;have hr:=he x;rw[hx] at hr;obtain⟨b,hβ,hv⟩:=qR hr;have hlt:i ()<(els ()).length:=by rcases Nat.lt_or_ge (i ()) (els ()).length with h'|h';{exact h'};{rw[List.getElem?_eq_none h'] at hck;cases hck});rcases h.obj.at_ n _ (yW ho) with⟨hn,he0⟩|⟨b',vs,T,hβ',hb,hsz,hwid,hrr⟩;{rw[he0] at hlt;simp at hlt}
     ·(rw[hβ] at hβ';cases hβ';have hg:(els ()).getD (i ()) []=xL c:=by rw[List.getD_eq_getElem?_getD,hck];rfl);obtain⟨pv,val,h1,h2,h3⟩:=dZ (w:=w) (S:=S) (β:=β) (b:=b) (o:=i ()*s) hK (fun j=>vs.getD (i ()*s+j) undef)
       (fun j hj=>vP hb _ (by
        have:i ()*s+s<=(els ()).length*s:=by
         calc i ()*s+s=(i ()+1)*s:=by rw[Nat.add_mul];omega
          _<=_:=Nat.mul_le_mul_right _ hlt
        omega))
       (fun j hj=>by have:=(hrr (i ()) j hlt (by omega)).1;rw[hg,u9] at this;exact .c (y7 rfl hcf j) this)
      exact fin pv val (by simp[execOp,hop,hv,h2]) h1 h3
   ·rename_i sm rows hs0 ho;cases hss:(nqb s 1&&nqb off 0) with
    |false=>simp[hss] at hs| true =>
     simp only[hss] at hs;simp only[Bool.and_eq_true] at hss;have e1:=yG hss.1;have e2:=yG hss.2;subst e1 e2;obtain⟨v0,k0,hk0,hki,hK⟩:=hs.h;have hr:=he x;rw[hx] at hr;obtain⟨b,hβ,hv⟩:=qR hr;rcases (show MatAt w S β n sm rows hs0 from h.obj.at_ n _ (yW ho)).pl with⟨_,_,hn⟩|⟨b',vs,T,hβ',hb,hsz,hhs,_⟩;{rw[hn] at hk0;simp at hk0}
     ·rw[hβ] at hβ';cases hβ';obtain⟨hlt,hrp⟩:=hhs v0 k0 hk0;obtain⟨pv,val,h1,h2,h3⟩:=dZ (w:=w) (S:=S) (β:=β) (b:=b) (o:=i ()) hK (fun j=>vs.getD (i ()+j) undef)
       (fun j hj=>vP hb _ (by simp only[List.length_cons,List.length_nil] at hj;omega))
       (fun j hj=>by
        (simp only[List.length_cons,List.length_nil] at hj;have:j=0:=by omega);subst this
        rw[hki] at hrp;exact hrp)
      exact fin pv val (by rw[Nat.add_zero] at h2;simp[execOp,hop,hv,h2]) h1 h3
   {exact hs.elim}
  {exact hs.elim}
 {rename_i bop t x y yt hop;obtain⟨pv,val,h1,h2,h3⟩:=zEY (ox:=x) (oy:=y) (fun c e=>by rw[e];rfl) (he x) (he y) hs;exact fin pv val (by simp only[execOp,hop,Sem.run_bind] at h2 ⊢;simp[h2]) h1 h3};{rename_i op t x hop;have hr:=he x;split at hs;{rename_i hx;rw[hx] at hr;exact fin _ (.bool false) (by simp[execOp,hop,Op.unary,mD hr]) hs (.c rfl (.bool false))};{rename_i hx;rw[hx] at hr;exact fin _ (.bool true) (by simp[execOp,hop,Op.unary,mE hr]) hs (.c rfl (.bool true))};{rename_i b hx;rw[hx] at hr;exact fin _ (.bool (!(b ()))) (by simp[execOp,hop,Op.unary,fM hr]) hs (bU _)};{rename_i b hx;rw[hx] at hr;exact fin _ (.bool (b ())) (by simp[execOp,hop,Op.unary,gO hr]) hs (dX _)};{rename_i k n hx;rw[hx] at hr;obtain⟨pv,h1,h2⟩:=sG (w:=w) (S:=S) (β:=β) hs;exact fin pv _ (by simp[execOp,hop,Op.unary,xX hr,Op.intArith]) h1 h2};{exact hs.elim}}
 ·rename_i src dst x hop;cases hno:(ty src).isNo with
  |true=>simp[hno] at hs| false =>
   simp only[hno,cond_false] at hs;split at hs;{rename_i k z k' n ht hx;have hr:=he x;rw[hx] at hr;obtain⟨d,hd⟩:=zNC hno;obtain⟨i,d',zv,_,h2,_,_,_,_,_,h8,_⟩:=o6 ht;have h8:=h8 k z rfl;subst h8;refine fin _ _ ?_ hs (fJ k (fun _=>nx k (n ())));cases d <;> simp[execOp,hop,convert,run_underlying hd,run_underlying h2,xX hr,Conv.intToInt,nx]};{rename_i els ht hx;have hr:=he x;rw[hx] at hr;obtain⟨⟨e,h1,h2⟩,h3,ns,h4,h5⟩:=hs.h;obtain⟨a,ln,cap,hv,hb⟩:=zEX h4 (fI hr);exact fin _ (.string (lI ns)) (by simp[execOp,hop,hv,run_convert_bytes_string w src dst e a ln cap h1 h2 h3,hb]) h5 (.c rfl (.str _))};{exact hs.elim}
 {rename_i t x i hop;split at hs;{rename_i n fs z ht;split at hs;{rename_i off sz ag hi;have hr:=he x;split at hs;{rename_i m o' hx;rw[hx] at hr;obtain⟨b,hβ,hv⟩:=uM hr;exact fin _ _ (by simp[execOp,hop,hv,dH ht hi]) hs (.ptr hβ)};{rename_i m s j o' hx;rw[hx] at hr;obtain⟨b,hβ,hv⟩:=qR hr;exact fin _ (.pointer (some ⟨b,j ()*s+(o'+off),none⟩)) (by simp[execOp,hop,hv,dH ht hi,Nat.add_assoc]) hs (.aptr hβ)};{rename_i cs o' hx;rw[hx] at hr;obtain⟨b,oo,vals,hS,hv,hf,hc,hrr⟩:=fL hr;exact fin _ (.pointer (some ⟨b,oo+(o'+off),none⟩)) (by simp[execOp,hop,hv,dH ht hi,Nat.add_assoc]) hs (.dptr vals hS hf hc hrr)};{exact hs.elim}};{exact hs.elim}};{exact hs.elim}}
 ·rename_i t x i hop;split at hs
  ·rename_i n fs z ht;split at hs
   ·rename_i off sz ag hi;obtain⟨inf,fields,zs,h1,h2,h3,h4,h5,h6,h7,h8⟩:=lP ht;rw[h6,List.getElem?_map] at hi;obtain⟨f,hf,hfe⟩:=Option.map_eq_some_iff.1 hi;cases ag with
    |false=>exact hs.elim| true =>
     simp only at hs;simp only[Prod.mk.injEq] at hfe;obtain⟨q1,q2,q3⟩:=hfe;split at hs
     ·rename_i cs hx;have hr:=he x;rw[hx] at hr;cases hle:nle (off+sz) cs.length with
      |false=>simp[hle] at hs| true =>
       (simp only[hle] at hs;have hle:off+sz<=cs.length:=by simp[nle] at hle;omega);obtain⟨vs,hv,hl,hrr⟩:=v5 hr
       obtain⟨j,hj,hjs⟩:=uJ (t:=f.type) (h8 f (List.mem_of_getElem? hf));obtain⟨d,hd⟩:∃ d,Pg.underlying f.type=some d:=by
        unfold qJ at q3;cases hu:Pg.underlying f.type with
        |none=>rw[hu] at q3;cases q3
        |some d=>exact⟨d,rfl⟩
       (have hd':=aT hd w;rw[q3] at hd';have hfa:fields[i]?=some f:=by rw[<-hf,Array.getElem?_toList]);refine fin _ (.agg (vs.extract off (off+sz))) ?_ hs (.agg ?_ ?_)
       {simp[execOp,hop,hv,Instr.field,run_underlying h2,hfa,asAgg,part,hd',vB hj,hjs,q1,q2]};{simp;omega}
       ·(intro k hk;have hk':k<sz:=by simp at hk;omega);have:=hrr (off+k) (by omega)
        (have e1:(vs.extract off (off+sz)).getD k undef=vs.getD (off+k) undef:=by simp only[Array.getD_eq_getD_getElem?];rw[Array.getElem?_extract,if_pos (by omega)]);have e2:((cs.drop off).take sz).getD k .any=cs.getD (off+k) .any:=by simp only[List.getD_eq_getElem?_getD];rw[List.getElem?_take,if_pos hk',List.getElem?_drop]
        rw[e1,e2];exact this
     {exact hs.elim}
   {exact hs.elim}
  {exact hs.elim}
 ·rename_i t x i hop;split at hs;{rename_i n b z els k kv ht hx hi;obtain⟨inf,el,j,zv,h1,h2,h3,h4,h5,h6,h7,h8,h9,h10,h11,h12⟩:=w7 ht;have hr:=he x;have hri:=he i;rw[hx] at hr;rw[hi] at hri;obtain⟨hk0,c,hcf,hcl,hck,hK⟩:=hs.h;obtain⟨bb,oo,cap,hv,hlt,hrep⟩:=zMC (β:=β) (fI hr) h10 hcf hcl hck;refine fin _ _ ?_ hK hrep;have:=dG (w:=w) h4 h5 bb oo (els ()).length cap k (kv ()) hk0 (by omega);rw[h7] at this;simp[execOp,hop,hv,xX hri,this]}
  ·rename_i n b z m s o' len k kv ht hx hi;obtain⟨inf,el,j,zv,h1,h2,h3,h4,h5,h6,h7,h8,h9,h10,h11,h12⟩:=w7 ht;have hr:=he x;have hri:=he i;rw[hx] at hr;rw[hi] at hri;cases hss:nqb n s with
   |false=>simp[hss] at hs| true =>
    simp only[hss,cond_true] at hs;have:=yG hss;subst this;obtain⟨hrg,hK⟩:=hs;rcases vC hr with⟨_,_,hl0,_⟩|⟨bb,cap,vs,T,hβ,hlc,hb,hsz,hv⟩;{have:=hrg.lo;have:=hrg.hi;omega};{refine fin _ _ ?_ hK (.aptr hβ);have:=dG (w:=w) h4 h5 bb (o' ()*n) (len ()) cap k (kv ()) hrg.lo hrg.hi;rw[h7] at this;simp[execOp,hop,hv,xX hri,this,Nat.add_mul]}
  {rename_i len n ag z m o' k kv ht hx hi;obtain⟨inf,el,zs,h1,h2,h3,h4,h5,h6,h7,h8,h8',h8'',h9⟩:=sY ht;have hr:=he x;have hri:=he i;rw[hx] at hr;rw[hi] at hri;obtain⟨jj,hj1,hj2,hK⟩:=hs.h;obtain⟨b,hβ,hv⟩:=uM hr;obtain⟨j,hj,hjs⟩:=uJ (t:=el) (by omega);refine fin _ _ ?_ hK (.ptr hβ);have:=pC (w:=w) h2 hj b o' k (kv ()) (by omega) (by omega);rw[hjs,h6,hj1] at this;simp[execOp,hop,hv,xX hri,hj1,this]};{exact hs.elim}
 ·rename_i t x i hop;split at hs
  ·rename_i len z cs k kv ht hx hi;obtain⟨inf,el,zs,h1,h2,h3,h4,h5,h6,h7,h8,h8',h8'',h9⟩:=sY ht;have hr:=he x;have hri:=he i;rw[hx] at hr;rw[hi] at hri;cases hll:nqb len cs.length with
   |false=>simp[hll] at hs| true =>
    (simp only[hll,cond_true] at hs;have hll:=yG hll;obtain⟨jj,hj1,hj2,hK⟩:=hs.h;obtain⟨vs,hv,hl,hrr⟩:=v5 hr;obtain⟨j,hj,hjs⟩:=uJ (t:=el) (by omega);have hs1:j.size=1:=by omega);obtain⟨d,hd⟩:=Option.isSome_iff_exists.1 h8''
    (have hlt:jj<vs.size:=by omega);refine fin _ (vs.getD jj undef) ?_ hK (hrr jj (by omega))
    have hd':=aT hd w;rw[h7] at hd';simp[execOp,hop,hv,xX hri,hj1,Instr.index,asIntOf,run_underlying h2,hj2,vB hj,hs1,part,hd',hlt]
  {exact hs.elim}
 ·rename_i x i hop;have hr:=he x;split at hs
  ·rename_i vs hx;rw[hx] at hr;cases hlt:nlt i vs.length with
   |false=>simp[hlt] at hs| true =>
    (simp only[hlt,cond_true] at hs;have hlt:i<vs.length:=by simp[nlt] at hlt;omega);obtain⟨us,hv,hl,hrr⟩:=k8 hr
    (have hlu:i<us.size:=by omega);exact fin _ (us.getD i undef) (by simp[execOp,hop,hv,Instr.extract,hlu]) hs (hrr i hlt)
  {exact hs.elim}
 ·rename_i t x lo hi hop;have hr:=he x;split at hs;{rename_i n b z els ht hx;obtain⟨inf,el,j,zv,h1,h2,h3,h4,h5,h6,h7,h8,h9,h10,h11,h12⟩:=w7 ht;rw[hx] at hr;split at hs;{rename_i l hh hl hhh;obtain⟨hok,hw,hK⟩:=hs;have hl':=jO he hl;have hh':=jO he hhh;have:=hok.lo;have:=hok.mid;have:=hok.hi;obtain⟨aa,cap,hv,hcap,hrep⟩:=zEF (fI hr) hw.h (l:=(l ()).toNat) (h:=(hh ()).toNat) (by omega) (by omega);refine fin _ _ ?_ hK (.c rfl hrep);have:=dM (w:=w) (ρ:=a.eval) (a:=aa) h4 h5 hcap hok.lo hok.mid hok.hi (hl'.imp (fun h=>⟨h.1,by rw[h.2]⟩) id) (hh'.imp (fun h=>⟨h.1,by rw[h.2]⟩) id);rw[h7] at this;simp only[execOp,hop,hv,Sem.run_bind,this,Result.andThen_ok,Sem.run_pure]};{exact hs.elim}}
  ·rename_i n b z m s o' len ht hx;obtain⟨inf,el,j,zv,h1,h2,h3,h4,h5,h6,h7,h8,h9,h10,h11,h12⟩:=w7 ht;rw[hx] at hr;split at hs
   ·rename_i l hh hl hhh;cases hss:nqb n s with
    |false=>simp[hss] at hs| true =>
     simp only[hss,cond_true] at hs;have:=yG hss;subst this;obtain⟨hok,hne,hK⟩:=hs;have hl':=jO he hl;have hh':=jO he hhh;have:=hok.lo;have:=hok.mid;have:=hok.hi;have:=hne.lt;rcases vC hr with⟨_,_,hl0,_⟩|⟨bb,cap,vs,T,hβ,hlc,hb,hsz,hv⟩;{omega}
     ·refine fin _ _ ?_ hK (.osl (cap:=cap-(l ()).toNat) hβ (by omega) hb ?_);{have:=dM (w:=w) (ρ:=a.eval) (a:=some ⟨bb,o' ()*n,none⟩) h4 h5 hlc hok.lo hok.mid hok.hi (hl'.imp (fun h=>⟨h.1,by rw[h.2]⟩) id) (hh'.imp (fun h=>⟨h.1,by rw[h.2]⟩) id);rw[h7,if_neg (by omega)] at this;simp only[Option.map_some,uF,<-Nat.add_mul] at this;simp only[execOp,hop,hv,Sem.run_bind,this,Result.andThen_ok,Sem.run_pure]}
      ·(have:o' ()+(l ()).toNat+(cap-(l ()).toNat)=o' ()+cap:=by omega);rw[this];exact hsz
   {exact hs.elim}
  ·rename_i n b z ht hx;obtain⟨inf,el,j,zv,h1,h2,h3,h4,h5,h6,h7,h8,h9,h10,h11,h12⟩:=w7 ht;rw[hx] at hr;have hv:=kC hr;split at hs
   ·(rename_i l hh hl hhh;obtain⟨hok,hK⟩:=hs;have hl':=jO he hl;have hh':=jO he hhh;have:=hok.lo;have:=hok.mid;have:=hok.hi;refine fin _ _ ?_ hK .nil;have:=dM (w:=w) (ρ:=a.eval) (a:=none) h4 h5 (Nat.le_refl 0) hok.lo hok.mid hok.hi (hl'.imp (fun h=>⟨h.1,by rw[h.2]⟩) id) (hh'.imp (fun h=>⟨h.1,by rw[h.2];rfl⟩) id);have e1:(l ()).toNat=0:=by omega);have e2:(hh ()).toNat=0:=by omega
    rw[e1,e2,if_pos rfl] at this;simp only[execOp,hop,hv,Sem.run_bind,this,Result.andThen_ok,Sem.run_pure]
   {exact hs.elim}
  {exact hs.elim}
 {rename_i x hop;have hr:=he x;split at hs;{rename_i n o' hx;rw[hx] at hr;obtain⟨b,hβ,hv⟩:=uM hr;exact fin _ _ (by simp[execOp,hop,hv]) hs (.ptr hβ)};{rename_i n s i o' hx;rw[hx] at hr;obtain⟨b,hβ,hv⟩:=qR hr;exact fin _ _ (by simp[execOp,hop,hv]) hs (.aptr hβ)};{rename_i c o' hx;rw[hx] at hr;obtain⟨b,oo,vals,hS,hv,hf,hc,hrr⟩:=fL hr;exact fin _ _ (by simp[execOp,hop,hv]) hs (.dptr vals hS hf hc hrr)};{exact hs.elim}}
 ·(rename_i f first caps hop);split at hs
  ·(rename_i hfe;have hf0:first=#[]:=by simpa using hfe);have hc:=lB he caps.toList
   refine fin _ (.func (.func f) #[] (caps.toList.map a.eval).toArray) ?_ hs (.fn hc.1 hc.2);have:caps.map a.eval=(caps.toList.map a.eval).toArray:=Array.ext' (by simp);simp[execOp,hop,Instr.makeFunc,hf0,<-this]
  {exact hs.elim}
 ·rename_i c hop;split at hs
  ·rename_i hcl;split at hs
   ·(rename_i x t hx ht;have hr:=he x;have ha:c.args=#[x]:=by rw[<-Array.toArray_toList (xs:=c.args),hx]);have hta:c.argTypes=#[t]:=by rw[<-Array.toArray_toList (xs:=c.argTypes),ht]
    unfold lenK at hs;split at hs
    ·rename_i n b z hty;obtain⟨inf,el,j,zv,h1,h2,h3,h4,_⟩:=w7 hty;split at hs
     ·(rename_i els hxe;rw[hxe] at hr;have:=fI hr;obtain⟨aa,cap,hv,_⟩:∃ aa cap,a.eval x=.slice aa (els ()).length cap/\True:=by rcases kD this with⟨e0,aa,cap,hv⟩|⟨bb,oo,cap,s,vals,_,_,_,_,_,_,_,hv⟩;{exact⟨aa,cap,by rw[hv,e0];rfl,trivial⟩};{exact⟨_,cap,hv,trivial⟩});exact fin _ (.int .i64 ((els ()).length:Nat)) (by simp[execOp,hop,resolve,hcl,invoke,Go.builtin,ha,hta,hv,Builtin.len_,run_underlying h4,goInt]) hs (fJ .i64 (fun _=>(((els ()).length:Nat):Int)))
     ·(rename_i m s o' l hxe;rw[hxe] at hr;obtain⟨aa,cap,hv⟩:∃ aa cap,a.eval x=.slice aa (l ()) cap:=by rcases vC hr with⟨_,_,hl0,aa,hv⟩|⟨bb,cap,vs,T,hβ,hlc,hb,hsz,hv⟩;{exact⟨aa,0,by rw[hv,hl0]⟩};{exact⟨_,cap,hv⟩});exact fin _ (.int .i64 (l ():Nat)) (by simp[execOp,hop,resolve,hcl,invoke,Go.builtin,ha,hta,hv,Builtin.len_,run_underlying h4,goInt]) hs (fJ .i64 (fun _=>((l ():Nat):Int)))
     {rename_i hxe;rw[hxe] at hr;have hv:=kC hr;exact fin _ (.int .i64 0) (by simp[execOp,hop,resolve,hcl,invoke,Go.builtin,ha,hta,hv,Builtin.len_,run_underlying h4,goInt]) hs (fJ .i64 (fun _=>0))};{rename_i hxe;rw[hxe] at hr;obtain⟨aa,hv⟩:=pF hr;exact fin _ (.int .i64 0) (by simp[execOp,hop,resolve,hcl,invoke,Go.builtin,ha,hta,hv,Builtin.len_,run_underlying h4,goInt]) hs (fJ .i64 (fun _=>0))};{exact hs.elim}
    {exact hs.elim}
   {exact hs.elim}
  ·rename_i hcl;split at hs
   ·(rename_i x y hx;have ha:c.args=#[x,y]:=by rw[<-Array.toArray_toList (xs:=c.args),hx]);split at hs
    {rename_i k b hxe hye;have hr:=he x;have hr2:=he y;rw[hxe] at hr;rw[hye] at hr2;refine fin _ (.int .i64 (imax (k ()) (b ()))) ?_ hs (fJ .i64 (fun _=>imax (k ()) (b ())));simp[execOp,hop,resolve,hcl,invoke,Go.builtin,ha,xX hr,xX hr2,Builtin.max_,Builtin.max2,imax]};{exact hs.elim}
   {exact hs.elim}
  ·rename_i hcl;split at hs
   ·(rename_i x y hx;have ha:c.args=#[x,y]:=by rw[<-Array.toArray_toList (xs:=c.args),hx]);split at hs
    {rename_i k b hxe hye;have hr:=he x;have hr2:=he y;rw[hxe] at hr;rw[hye] at hr2;refine fin _ (.int .i64 (imin (k ()) (b ()))) ?_ hs (fJ .i64 (fun _=>imin (k ()) (b ())));simp[execOp,hop,resolve,hcl,invoke,Go.builtin,ha,xX hr,xX hr2,Builtin.min_,Builtin.min2,imin]};{exact hs.elim}
   {exact hs.elim}
  {rename_i f hcl;split at hs;{rename_i g caps hf;exact aJ hop hcl h hf (hs.h.resolve_right fun q=>by cases q.1) hk};{exact hs.elim}};{exact hs.elim}
 {exact hs.elim}
end
end Go.Proofs.YtfainocfaddbdaaGreat
