/- A part of the proof: PmJ. -/
import Derived.Test.YtaeaffgjdcigoaaGreatC06
set_option linter.all false
namespace Go.Proofs.YtaeaffgjdcigoaaGreat
open Go
section
variable {w0:World} {S0:Nat->Nat->Prop} {K0:Nat->Prop} {N:Cx} {τ:Nat->PV} {objs:List (Nat×Obj')} {a:Act} {w:World} {S S':Nat->Nat->Prop} {β:Bm}
theorem Evo.refl:Evo S w w:=⟨fun _ _ _=>rfl,fun b vs T h=>⟨vs,h,rfl⟩⟩
theorem Rep.mono {v pv}(h:Rep w S β v pv)(hS:∀ b i,S b i->S' b i):Rep w S' β v pv:=h.evo Evo.refl hS
theorem kU (f:PV->PV)(hf:f .any=.any):∀ (l:List (Nat×PV)) (t:Nat),zB (wV f l) t=f (zB l t)
 |[],t=>by simp[wV,zB,hf]| (u,v)::r,t=>by
  simp only[wV,zB];cases nqb u t with
  |true=>rfl| false=>exact kU f hf r t
theorem zL (f:PV->PV):∀ (l:List PV),(vG f l).length=l.length
 |[]=>rfl| v::r=>by simp[vG,zL f r]
theorem yJ (f:PV->PV)(hf:f .any=.any):∀ (l:List PV) (j:Nat),(vG f l).getD j .any=f (l.getD j .any)
 |[],j=>by simp[vG,hf]| v::r,0=>by simp[vG]| v::r,j+1=>by simpa[vG] using yJ f hf r j
theorem fG {f:PV->Prop}(hf:f .any):∀ {cs:List PV},allP f cs->∀ j,f (cs.getD j .any)
 |[],_,j=>by grind| c::cs,h,0=>by simpa using h.1| c::cs,h,j+1=>by simpa using fG hf h.2 j
def szO:Obj'->Nat
 |.box cs=>cs.length| .arr s els=>(els ()).length*s| .log s els=>(els ()).length*s| .lent s els=>(els ()).length*s| .mat _ _ _=>0| .mp _ _=>0
theorem eW {n s:Nat}{els:Unit->List (List D)}{o:Obj'}(hr:rowO o=some (s,els))(h:ObjAt w S β n o):RowAt w S β n s els:=by
 cases o with
 |box cs=>cases hr
 |arr s' e=>cases hr;exact h
 |log s' e=>cases hr;exact h
 |lent s' e=>cases hr;exact h.1
 |mat s' r q=>cases hr
 |mp t k=>cases hr
theorem zMT {s:Nat}{els:Unit->List (List D)}{o:Obj'}(hr:rowO o=some (s,els)):szO o=(els ()).length*s:=by
 cases o with
 |box cs=>cases hr
 |arr s' e=>cases hr;rfl
 |log s' e=>cases hr;rfl
 |lent s' e=>cases hr;rfl
 |mat s' r q=>cases hr
 |mp t k=>cases hr
structure FrzAt (w:World) (S S':Nat->Nat->Prop) (β:Bm) (n:Nat) (o:Obj'):Prop where
 sub:∀ b i,S b i->S' b i
 new:∀ b,β n=some b->∀ i,i<szO o->S' b i
 at_:ObjAt w S β n o
 cl:zDE o=true
theorem frz0 {n:Nat}{o:Obj'}(F:FrzAt w S S' β n o){v pv}(h:Rep w S β v pv)(hf:fo0 n o pv):Rep w S' β v (fz0 n o pv):=by
 have hm:=h.mono F.sub;cases pv with
 |agg cs=>exact xK _| tup cs=>exact xK _| fn f cs=>exact xK _| ptr m off =>
  simp only[fz0];cases hb:nqb m n with
  |false=>exact hm| true =>
   have:=yY hb;subst this;simp only[cond_true];cases o with
   |arr s els=>exact xK _| log s els=>exact xK _| lent s els=>exact xK _| mat s r q=>exact xK _| mp t k=>exact xK _| box cs =>
    obtain⟨b,hβ,rfl⟩:=kC h;obtain⟨b',vs,T,hβ',hw,hsz,hr⟩:=F.at_;rw[hβ] at hβ';cases hβ';have hcl:=F.cl;simp only[zDE] at hcl;have hfl:yR qW (vG zG6 cs)=true:=by
     have:∀ (l:List PV),yR iA l=true->yR qW (vG zG6 l)=true:=by
      intro l;induction l with
      |nil=>intro _;rfl
      |cons c l ih =>
       intro h;simp only[yR,yT,vG] at h ⊢;exact⟨by cases c <;> simp_all [iA,zG6,qW],ih h.2⟩
     grind
    show Rep w S' β _ (.dptr (vG zG6 cs) off)
    suffices key:Rep w S' β (.pointer (some ⟨b,0+off,none⟩)) (.dptr (vG zG6 cs) off) by grind
    refine Rep.dptr (o:=0) (fun j=>vs.getD j undef) (fun j hj=>F.new b hβ _ (by grind [zL,szO])) hfl (fun j hj=>?_) (fun j hj=>?_);{rw[zL] at hj;rw[kZ];grind [gJ]}
    ·(rw[zL] at hj;rw[yJ _ rfl];have h1:=t5 ((hr j hj).mono F.sub) (xR rfl hcl j);have h2:∀ x:PV,toD (zG6 x)=toD x:=by intro x;cases x <;> rfl);grind
 |aptr m s i off =>
  simp only[fz0];cases hb:nqb m n with
  |false=>exact hm| true=>exact xK _
 |mpv m=>simp only[fz0];cases nqb m n <;> first|exact hm|exact xK _
 |osl m s i len =>
  simp only[fz0];cases hb:nqb m n with
  |false=>exact hm| true =>
   have:=yY hb;subst this;simp only[cond_true];cases hro:rowO o with
   |none=>exact xK _| some p =>
    obtain⟨s',els⟩:=p;simp only[fo0,hb,hro] at hf;have hf:=hf.h;show Rep w S' β v ((match nqb s s' with|true=>PV.sl (fun _=>((els ()).drop (i ())).take (len ()))|false=>.any));cases hss:nqb s s' with
    |false=>exact xK _| true =>
     have:=yY hss;subst this;simp only[cond_true];refine .c rfl ?_;simp only[toD];rcases qK h with⟨hn,ho,hl,aa,rfl⟩|⟨b,cap,vs,T,hβ,hlc,hw,hsz,rfl⟩;{rw[hl];simpa using RepD.sl0 _ _}
     ·rcases eW hro F.at_ with⟨hn,_⟩|⟨b',vs',T',hβ',hw',hsz',hwid,hr⟩;{grind}
      ·(rw[hβ] at hβ';cases hβ';rw[hw] at hw';cases hw';have hlen:(((els ()).drop (i ())).take (len ())).length=len ():=by grind);by_cases h0:len ()=0
       {rw[h0];simpa using RepD.sl0 _ _}
       ·(have hg:∀ k,k<len ()->(((els ()).drop (i ())).take (len ())).getD k []=(els ()).getD (i ()+k) []:=by grind);have key:=RepD.sl (w:=w) (S:=S') (b:=b) (o:=i ()*s) (cap:=cap) (s:=s) (els:=((els ()).drop (i ())).take (len ())) (fun k j=>vs.getD ((i ()+k)*s+j) undef)
         (by grind) oM
         (fun k j hk hj=>F.new b hβ _ (by
          rw[hlen] at hk;rw[zMT hro];have:(i ()+k)*s+s<=(els ()).length*s:=by
           calc (i ()+k)*s+s=(i ()+k+1)*s:=by grind
            _<=_:=qV _ oM
          grind))
         (fun e he=>hwid e (List.mem_of_mem_drop (mZ he)))
         (fun k j hk hj=>by
          rw[hlen] at hk;have hlt:(i ()+k)*s+j<vs.size:=by
           have:(i ()+k)*s+s<=(els ()).length*s:=by
            calc (i ()+k)*s+s=(i ()+k+1)*s:=by grind
             _<=_:=qV _ oM
           omega
          rw[<-gJ hw _ hlt,gF])
         (fun k j hk hj=>by grind)
         (fun k j hk hj=>by rw[hlen] at hk;rw[hg k hk];exact ((hr (i ()+k) j oM hj).1).evo (fun _ _ _=>rfl) F.sub)
        grind
 |int k x=>exact hm| tt=>exact hm| ff=>exact hm| bool b=>exact hm| nbool b=>exact hm| str x=>exact hm| nil=>exact hm| sl e=>exact hm| dptr cs o=>exact hm| nilf=>exact hm| nilp=>exact hm| emp=>exact hm| any=>exact hm
theorem frz1 {n:Nat}{o:Obj'}(F:FrzAt w S S' β n o){v pv}(h:Rep w S β v pv)(hf:fo1 n o pv):Rep w S' β v (fz1 n o pv):=by
 cases pv with
 |agg cs =>
  obtain⟨vs,rfl,h1,h2⟩:=qL h;exact .agg (by grind [zL]) fun j hj=>by rw[zL] at hj;rw[yJ _ rfl];exact frz0 F (h2 j hj) (fG trivial hf j)
 |tup cs =>
  obtain⟨vs,rfl,h1,h2⟩:=fK h;exact .tup (by grind [zL]) fun j hj=>by rw[zL] at hj;rw[yJ _ rfl];exact frz0 F (h2 j hj) (fG trivial hf j)
 |fn f cs =>
  obtain⟨vs,rfl,h1,h2⟩:=gM h;exact .fn (by grind [zL]) fun j hj=>by rw[zL] at hj;rw[yJ _ rfl];exact frz0 F (h2 j hj) (fG trivial hf j)
 |_=>exact frz0 F h hf
theorem frz2 {n:Nat}{o:Obj'}(F:FrzAt w S S' β n o){v pv}(h:Rep w S β v pv)(hf:fo n o pv):Rep w S' β v (frz n o pv):=by
 cases pv with
 |agg cs =>
  obtain⟨vs,rfl,h1,h2⟩:=qL h;exact .agg (by grind [zL]) fun j hj=>by rw[zL] at hj;rw[yJ _ rfl];exact frz1 F (h2 j hj) (fG trivial hf j)
 |tup cs =>
  obtain⟨vs,rfl,h1,h2⟩:=fK h;exact .tup (by grind [zL]) fun j hj=>by rw[zL] at hj;rw[yJ _ rfl];exact frz1 F (h2 j hj) (fG trivial hf j)
 |fn f cs =>
  obtain⟨vs,rfl,h1,h2⟩:=gM h;exact .fn (by grind [zL]) fun j hj=>by rw[zL] at hj;rw[yJ _ rfl];exact frz1 F (h2 j hj) (fG trivial hf j)
 |_=>exact frz0 F h hf
theorem wQ (f:PV->PV):∀ {l:List (Nat×Obj')} {n:Nat} {o:Obj'},(n,o)∈y4 f l->∃ o',(n,o')∈l/\o=xY f o'
 |(m,o1)::r,n,o,h=>by
  (have e:y4 f ((m,o1)::r)=(m,xY f o1)::y4 f r:=by cases o1 <;> rfl);rw[e,yI] at h
  rcases h with h|h;{grind};{obtain⟨o',h1,h2⟩:=wQ f h;grind}
theorem gQ (f:PV->PV):∀ (l:List (Nat×Obj')),(y4 f l).map Prod.fst=l.map Prod.fst
 |[]=>rfl| (m,o1)::r=>by
  (have e:y4 f ((m,o1)::r)=(m,xY f o1)::y4 f r:=by cases o1 <;> rfl);rw[e,kA,kA,gQ f r]
theorem oJ (f:PV->PV):∀ {hs:List (PV×(Unit->Nat))} {v:PV} {k:Unit->Nat},(v,k)∈j7 f hs->∃ v',(v',k)∈hs/\v=f v'
 |(u,j)::r,v,k,h=>by simp only[j7,yI] at h;rcases h with h|h;{grind};{obtain⟨v',h1,h2⟩:=oJ f h;grind}
theorem nQ (f:PV->PV):∀ {hs:List (PV×(Unit->Nat))} {v:PV} {k:Unit->Nat},(v,k)∈hs->(f v,k)∈j7 f hs
 |(u,j)::r,v,k,h=>by simp only[j7,yI] at h ⊢;rcases h with h|h;{grind};{exact .inr (nQ f h)}
theorem jF (f:PV->PV)(o:Obj')(i:Nat):vJ (xY f o) i↔vJ o i:=by
 cases o with
 |mat s rows hs =>
  show (_/\_)↔(_/\_);grind [nQ,oJ]
 |_=>exact Iff.rfl
theorem uE {f:PV->PV}{n:Nat}{o:Obj'}{b:Nat}(h:Own β n (xY f o) b):Own β n o b:=by rcases h with h|⟨i,h1,h2⟩;{exact .inl h};{exact .inr ⟨i,(jF f o i).1 h1,h2⟩}
theorem zRI {f:PV->PV}{n:Nat}{o:Obj'}{b:Nat}(h:Own β n o b):Own β n (xY f o) b:=by rcases h with h|⟨i,h1,h2⟩;{exact .inl h};{exact .inr ⟨i,(jF f o i).2 h1,h2⟩}
theorem rM {f:PV->PV}{o:Obj'}{i:Nat}(h:jW o i):jW (xY f o) i:=by cases o <;> exact h
theorem wT:∀ {l:List (Nat×Obj')} {n m:Nat} {o:Obj'},(m,o)∈xO l n->(m,o)∈l/\m≠n
 |(u,x)::r,n,m,o,h=>by
  simp only[xO] at h;cases hu:nqb u n with
  |true =>
   simp only[hu,cond_true] at h;obtain⟨h1,h2⟩:=wT h;grind
  |false =>
   simp only[hu,cond_false,yI] at h;rcases h with h|h;{cases h;exact⟨xM,fun e=>by simp_all⟩};{obtain⟨h1,h2⟩:=wT h;grind}
theorem mP:∀ (l:List (Nat×Obj')) (n:Nat),((xO l n).map Prod.fst).Sublist (l.map Prod.fst)
 |[],n=>by simp[xO]| (u,x)::r,n=>by
  simp only[xO];cases nqb u n with
  |true=>exact (mP r n).trans (List.sublist_cons_self _ _)| false=>exact (mP r n).cons_cons _
theorem zKH {n:Nat}{o:Obj'}:∀ {l:List (Nat×PV)},foT n o l->∀ t,fo n o (zB l t)
 |[],_,t=>trivial| (u,v)::r,h,t=>by
  simp only[zB];cases nqb u t with
  |true=>exact h.1| false=>exact zKH h.2 t
theorem zKI {n u:Nat}{o o1:Obj'}{r:List (Nat×Obj')}(h:foO n o ((u,o1)::r)):foO n o r:=by cases o1 <;> first|exact h|exact h.2
theorem zOP {n:Nat}{o:Obj'}:∀ {l:List (Nat×Obj')},foO n o l->∀ {m cs},(m,Obj'.box cs)∈l->allP (fo n o) cs
 |(u,o1)::r,h,m,cs,hm=>by rcases yI.1 hm with hm|hm;{cases hm;exact h.1};{exact zOP (zKI h) hm}
theorem zKJ {n:Nat}{o:Obj'}:∀ {l:List (Nat×Obj')},foO n o l->∀ {m s rows hs},(m,Obj'.mat s rows hs)∈l->foH n o hs
 |(u,o1)::r,h,m,s,rows,hs,hm=>by rcases yI.1 hm with hm|hm;{cases hm;exact h.1};{exact zKJ (zKI h) hm}
theorem zOQ {n:Nat}{o:Obj'}:∀ {hs:List (PV×(Unit->Nat))},foH n o hs->∀ {v k},(v,k)∈hs->fo n o v
 |(u,j)::r,h,v,k,hm=>by rcases yI.1 hm with hm|hm;{cases hm;exact h.1};{exact zOQ h.2 hm}
theorem RowIn.mono {ob:Option Nat}{v:Value}{s:Nat}{els:List (List D)}(h:RowIn w S ob v s els)(hS:∀ b i,S b i->S' b i):RowIn w S' ob v s els:=by rcases h with h|⟨b,cap,us,T,h1,h2,h3,h4,h5,h6,h7⟩;{exact .inl h};{exact .inr ⟨b,cap,us,T,h1,h2,h3,h4,h5,h6,fun i j hi hj=>⟨(h7 i j hi hj).1.evo (fun _ _ _=>rfl) hS,(h7 i j hi hj).2⟩⟩}
theorem MatAt.map {n s:Nat}{rows:Unit->List (List (List D))}{hs:List (PV×(Unit->Nat))}{f:PV->PV}(h:MatAt w S β n s rows hs)(hS:∀ b i,S b i->S' b i)(hf:∀ v x k,(x,k)∈hs->Rep w S β v x->Rep w S' β v (f x)):MatAt w S' β n s rows (j7 f hs):=by have hr:=jF f (.mat s rows hs);obtain⟨hp,h5,h6⟩:=h;refine⟨?_,fun i j b hi hj=>h5 i j b ((hr i).1 hi) ((hr j).1 hj),fun i b hi=>h6 i b ((hr i).1 hi)⟩;rcases hp with⟨e1,e2,e3⟩|⟨b,vs,T,h1,h2,h3,h4,h7⟩;{subst e3;exact .inl ⟨e1,e2,rfl⟩};{refine .inr ⟨b,vs,T,h1,h2,h3,fun v k hk=>?_,fun i hi=>(h7 i ((hr i).1 hi)).mono hS⟩;obtain⟨v',g1,rfl⟩:=oJ f hk;grind}
theorem RowAt.mono {n s:Nat}{els:Unit->List (List D)}(h:RowAt w S β n s els)(hS:∀ b i,S b i->S' b i):RowAt w S' β n s els:=by rcases h with e|⟨b,vs,T,e1,e2,e3,e4,e5⟩;{exact .inl e};{exact .inr ⟨b,vs,T,e1,e2,e3,e4,fun i j hi hj=>⟨(e5 i j hi hj).1.evo (fun _ _ _=>rfl) hS,(e5 i j hi hj).2⟩⟩}
theorem ObjAt.mono {n:Nat}{o:Obj'}(h:ObjAt w S β n o)(hS:∀ b i,S b i->S' b i):ObjAt w S' β n o:=by
 cases o with
 |box cs=>obtain⟨b,vs,T,e1,e2,e3,e4⟩:=h;exact⟨b,vs,T,e1,e2,e3,fun j hj=>(e4 j hj).mono hS⟩
 |arr s els=>exact RowAt.mono h hS| log s els=>exact RowAt.mono h hS| lent s els=>exact⟨RowAt.mono h.1 hS,h.2.mono hS⟩| mp t k=>exact h| mat s rows hs =>
  obtain⟨hp,h5,h6⟩:=h;refine⟨?_,h5,h6⟩;rcases hp with hp|⟨b,vs,T,h1,h2,h3,h4,h7⟩;{grind};{exact .inr ⟨b,vs,T,h1,h2,h3,fun v k hk=>⟨(h4 v k hk).1,(h4 v k hk).2.mono hS⟩,fun i hi=>(h7 i hi).mono hS⟩}
theorem Sim.frz {ps:PS}(h:Sim w0 S0 K0 N (zB ps.tmps) ps.objs a w S β){n:Nat}{o:Obj'}(ho:yG ps.objs n=some o)(hc:zDE o=true)(hT:foT n o ps.tmps)(hO:foO n o ps.objs):∃ S' β',Sim w0 S0 K0 N (zB (zME n o ps).tmps) (zME n o ps).objs a w S' β':=by
 have hmem:=y5 ho;have F:FrzAt w S (fun b i=>S b i\/β n=some b) β n o:=⟨fun b i=>.inl,fun b h i _=>.inr h,h.obj.at_ n o hmem,hc⟩;refine⟨fun b i=>S b i\/β n=some b,β,⟨h.dfr,h.sz,?_,?_,?_,?_,?_⟩⟩
 ·refine⟨h.ld.size,h.ld.os,h.ld.tape,h.ld.output,h.ld.same,h.ld.shape,?_,?_,?_⟩;{rintro b i (hS|hβ);{exact h.ld.bnd b i hS};{exact (h.obj.un n o b hmem (.inl hβ)).2}};{exact fun b i hb hS=>.inl (h.ld.sub b i hb hS)}
  ·rintro b i hb hk (hS|hβ);{exact h.ld.old b i hb hk hS}
   ·rcases h.own n o b hmem (.inl hβ) with h'|h'
    all_goals grind
 {intro t;simp only[zME];rw[kU _ rfl];exact frz2 F (h.tmp t) (zKH hT t)}
 ·refine⟨?_,?_,?_,?_⟩;{simp only[zME,gQ];exact (mP _ _).nodup h.obj.nd}
  ·intro m o' hm;obtain⟨o'',h1,h2⟩:=wQ _ hm;obtain⟨h3,h4⟩:=wT h1;have hat:=h.obj.at_ m o'' h3;cases o'' with
   |box cs =>
    subst h2;obtain⟨b,vs,T,e1,e2,e3,e4⟩:=hat;exact⟨b,vs,T,e1,e2,by grind [zL],fun j hj=>by rw[zL] at hj;rw[yJ _ rfl];exact frz2 F (e4 j hj) (fG trivial (zOP hO h3) j)⟩
   |arr s els=>subst h2;exact RowAt.mono hat F.sub| log s els=>subst h2;exact RowAt.mono hat F.sub| lent s els=>subst h2;exact⟨RowAt.mono hat.1 F.sub,hat.2.mono F.sub⟩| mp t k=>subst h2;exact hat| mat s rows hs=>subst h2;exact MatAt.map hat F.sub fun v x k hk hv=>frz2 F hv (zOQ (zKJ hO h3) hk)
  {intro m o' b hm hβ;obtain⟨o'',h1,rfl⟩:=wQ _ hm;obtain⟨h3,h4⟩:=wT h1;obtain⟨h5,h6⟩:=h.obj.un m o'' b h3 (uE hβ);refine⟨?_,h6⟩;rintro i (hS|hn);{grind [rM]};{exact absurd (h.obj.inj _ _ _ _ b h3 hmem (uE hβ) (.inl hn)) h4}};{intro m o' m' o'' b hm hm' hβ hβ';obtain⟨x,h1,rfl⟩:=wQ _ hm;obtain⟨y,h2,rfl⟩:=wQ _ hm';exact h.obj.inj _ _ _ _ b (wT h1).1 (wT h2).1 (uE hβ) (uE hβ')}
 {intro m o' b hm hβ;obtain⟨x,h1,rfl⟩:=wQ _ hm;exact h.own m x b (wT h1).1 (uE hβ)};{intro m o' hm hb;obtain⟨x,h1,_⟩:=wQ _ hm;exact h.keep m x (wT h1).1 hb}
theorem sH {f:PV->PV->Prop}(hf:∀ a b,f a b->Le a b):∀ {a b:List PV},gD f a b->LeL a b
 |[],[],_=>by simp[LeL]| x::a,y::b,h=>by simp only[LeL];exact⟨hf _ _ h.1,sH hf h.2⟩| [],y::b,h=>h.elim| x::a,[],h=>h.elim
theorem zHZ {a b:PV}(h:les1 a b):Le a b:=by unfold les1 at h;split at h;{simp only[Le];exact sH (fun _ _ h=>h.h) h};{simp only[Le];exact sH (fun _ _ h=>h.h) h};{exact h.h}
theorem dO {a b:PV}(h:les a b):Le a b:=by unfold les at h;split at h;{grind [Le,sH,zHZ]};{grind [Le,sH,zHZ]};{grind [Le,yY,sH,zHZ]};{exact h.h}
theorem nV {a b:List PV}(h:gD les a b):LeL a b:=sH (fun _ _ h=>dO h) h
theorem zJ6 {src:List (Nat×PV)}:∀ {l:List (Nat×PV)},leT src l->∀ t,Le (zB src t) (zB l t)
 |[],_,t=>by simp[zB,Le]| (u,v)::r,h,t=>by
  simp only[zB];cases hu:nqb u t with
  |true=>have:=yY hu;subst this;exact dO h.1| false=>exact zJ6 h.2 t
theorem pR {src:List (Nat×Obj')}:∀ {l:List (Nat×Obj')},leO src l->∀ {n o},(n,o)∈l->∃ o',(n,o')∈src/\zHG o' o
 |(u,x)::r,h,n,o,hm=>by simp only[yI] at hm;rcases hm with hm|hm;{cases hm;have h1:=h.1;grind [y5]};{exact pR h.2 hm}
theorem zKE {n:Nat}:∀ {l:List (Nat×Obj')},hasN n l=false->n∉l.map Prod.fst
 |[],_=>by simp| (m,o)::r,h=>by simp only[hasN,Bool.or_eq_false_iff] at h;simp only[kA,yI,not_or];exact⟨fun e=>by simp_all,zKE h.2⟩
theorem jN:∀ {l:List (Nat×Obj')},ndO l=true->(l.map Prod.fst).Nodup
 |[],_=>List.nodup_nil| (n,o)::r,h=>by simp only[ndO,yT,zHF] at h;simp only[kA,zC3];exact⟨zKE h.1,jN h.2⟩
theorem zH2:∀ {hs hs':List (PV×(Unit->Nat))},hLe hs hs'->∀ {v k},(v,k)∈hs'->∃ v' k',(v',k')∈hs/\Le v' v/\k' ()=k ()
 |[],[],_,v,k,hm=>by cases hm
 |(x,j)::r,(y,l)::q,h,v,k,hm=>by rcases yI.1 hm with hm|hm;{cases hm;refine⟨x,j,xM,h.1.1.h,?_⟩;have:=h.1.2.h;simp only[Le,true_and] at this;omega};{obtain⟨v',k',h1,h2⟩:=zH2 h.2 hm;grind}
 |[],y::q,h,_,_,_=>h.elim| x::r,[],h,_,_,hm=>h.elim
theorem zKG:∀ {hs hs':List (PV×(Unit->Nat))},hLe hs hs'->∀ {v k},(v,k)∈hs->∃ v' k',(v',k')∈hs'/\k ()=k' ()
 |[],[],_,v,k,hm=>by cases hm
 |(x,j)::r,(y,l)::q,h,v,k,hm=>by rcases yI.1 hm with hm|hm;{cases hm;refine⟨y,l,xM,?_⟩;have:=h.1.2.h;simp only[Le,true_and] at this;omega};{obtain⟨v',k',h1,h2⟩:=zKG h.2 hm;grind}
 |[],y::q,h,_,_,hm=>h.elim| x::r,[],h,_,_,hm=>h.elim
theorem zGG {s:Nat}{rows:Unit->List (List (List D))}{hs hs':List (PV×(Unit->Nat))}(h:hLe hs hs')(i:Nat):vJ (.mat s rows hs) i↔vJ (.mat s rows hs') i:=by show (_/\_)↔(_/\_);grind [zH2,zKG]
inductive ObjLe':Obj'->Obj'->Prop
 |box {a b} (h:LeL a b):ObjLe' (.box a) (.box b)
 |refl (o):ObjLe' o o
 |ll (s els):ObjLe' (.lent s els) (.log s els)
 |mat {s rows hs hs'} (h:hLe hs hs'):ObjLe' (.mat s rows hs) (.mat s rows hs')
theorem zD8 {o' o:Obj'}(h:zHG o' o):ObjLe' o' o:=by
 cases o' <;> cases o <;> first
  |exact h.elim
  |exact .box (nV h)
  |(obtain⟨hs,he⟩:=h;have:=yY hs;subst this;cases fU he.h;first|exact .refl _|exact .ll _ _;done)
  |(obtain⟨hs,he,hh⟩:=h;have:=yY hs;subst this;cases fU he.h;exact .mat hh)
theorem ObjAt.le {n:Nat}{o o':Obj'}(h:ObjAt w S β n o')(hl:zHG o' o):ObjAt w S β n o:=by
 cases zD8 hl with
 |refl=>exact h| ll s els=>exact h.1| box hq =>
  obtain⟨b,vs,T,e1,e2,e3,e4⟩:=h;exact⟨b,vs,T,e1,e2,e3.trans (uR hq),fun j hj=>(e4 j (by grind [uR])).le _ (pE hq j hj)⟩
 | @mat s rows hs hs' hh =>
  obtain⟨hp,h5,h6⟩:=h;have hr:=fun i=>zGG (s:=s) (rows:=rows) hh i;refine⟨?_,fun i j b hi hj=>h5 i j b ((hr i).2 hi) ((hr j).2 hj),fun i b hi=>h6 i b ((hr i).2 hi)⟩;rcases hp with⟨e1,e2,e3⟩|⟨b,vs,T,h1,h2,h3,h4,h7⟩
  ·subst e3;refine .inl ⟨e1,e2,?_⟩;cases hs' with
   |nil=>rfl| cons x r=>exact hh.elim
  {exact .inr ⟨b,vs,T,h1,h2,h3,fun v k hk=>by obtain⟨v',k',g1,g2,g3⟩:=zH2 hh hk;rw[<-g3];exact⟨(h4 v' k' g1).1,(h4 v' k' g1).2.le _ g2⟩,fun i hi=>h7 i ((hr i).2 hi)⟩}
theorem zRG {o o':Obj'}(hl:zHG o' o){i:Nat}(h:jW o' i):jW o i:=by
 cases zD8 hl with
 |refl=>exact h| ll s els=>exact h| box hl=>exact h.elim| mat hh=>exact h.elim
theorem zFC {n:Nat}{o o':Obj'}{b:Nat}(hl:zHG o' o)(h:Own β n o b):Own β n o' b:=by
 cases zD8 hl with
 |refl=>exact h| ll s els=>exact .inl (y7 (by intro _ hi;exact hi) h)| box hl=>exact .inl (y7 (by intro _ hi;exact hi) h)| mat hh =>
  rcases h with h|⟨i,h1,h2⟩;{exact .inl h};{exact .inr ⟨i,(zGG hh i).2 h1,h2⟩}
theorem Sim.le {ps ps':PS}(h:Sim w0 S0 K0 N (zB ps.tmps) ps.objs a w S β)(ht:leT ps.tmps ps'.tmps)(ho:leO ps.objs ps'.objs)(hn:ndO ps'.objs=true):Sim w0 S0 K0 N (zB ps'.tmps) ps'.objs a w S β where
 dfr:=h.dfr
 sz:=h.sz
 ld:=h.ld
 tmp t:=(h.tmp t).le _ (zJ6 ht t)
 obj:=⟨jN hn,fun n o hm=>by obtain⟨o',h1,h2⟩:=pR ho hm;exact (h.obj.at_ n o' h1).le h2,
  fun n o b hm hβ=>by obtain⟨o',h1,h2⟩:=pR ho hm;exact⟨fun i hS=>zRG h2 ((h.obj.un n o' b h1 (zFC h2 hβ)).1 i hS),(h.obj.un n o' b h1 (zFC h2 hβ)).2⟩,
  fun n o m o' b hm hm' hβ hβ'=>by obtain⟨x,h1,g1⟩:=pR ho hm;obtain⟨y,h2,g2⟩:=pR ho hm';exact h.obj.inj _ _ _ _ b h1 h2 (zFC g1 hβ) (zFC g2 hβ')⟩
 own n o b hm hβ:=by obtain⟨o',h1,g1⟩:=pR ho hm;exact h.own n o' b h1 (zFC g1 hβ)
 keep n o hm hb:=by obtain⟨o',h1,_⟩:=pR ho hm;exact h.keep n o' h1 hb
theorem w9 {n:Nat}:∀ {l:List (Nat×PV)},rL n l=true->∀ t,xS n (zB l t)=true
 |[],_,t=>rfl| (u,v)::r,h,t=>by
  simp only[rL,yT] at h;simp only[zB];cases nqb u t with
  |true=>exact h.1| false=>exact w9 h.2 t
def fZ (n:Nat):Obj'->Prop
 |.box cs=>wD n cs=true| .arr _ _=>True| .log _ _=>True| .lent _ _=>True| .mat _ _ hs=>aT n hs=true| .mp _ _=>True
theorem lM {n u:Nat}{o:Obj'}{r:List (Nat×Obj')}(h:xH n ((u,o)::r)=true):u≠n/\fZ n o/\xH n r=true:=by
 cases o with
 |box cs=>simp only[xH,yT] at h;exact⟨f7 h.1.1,h.1.2,h.2⟩| arr s els=>simp only[xH,yT] at h;exact⟨f7 h.1,trivial,h.2⟩| log s els=>simp only[xH,yT] at h;exact⟨f7 h.1,trivial,h.2⟩| lent s els=>simp only[xH,yT] at h;exact⟨f7 h.1,trivial,h.2⟩| mp t k=>simp only[xH,yT] at h;exact⟨f7 h.1,trivial,h.2⟩| mat s rows hs=>simp only[xH,yT] at h;exact⟨f7 h.1.1,h.1.2,h.2⟩
theorem vV {n:Nat}{l:List (Nat×Obj')}(h:xH n l=true):n<1000000:=by
 induction l with
 |nil=>exact mE (by grind [xH])| cons a r ih=>exact ih (lM (u:=a.1) (o:=a.2) h).2.2
theorem yK {n:Nat}{l:List (Nat×Obj')}(h:xH n l=true):∀ {m o},(m,o)∈l->m≠n/\fZ n o:=by
 induction l with
 |nil=>grind| cons a r ih =>
  intro m o hm;obtain⟨h1,h2,h3⟩:=lM (u:=a.1) (o:=a.2) h;grind
theorem bX {n:Nat}:∀ {hs:List (PV×(Unit->Nat))},aT n hs=true->∀ {v k},(v,k)∈hs->xS n v=true
 |(u,j)::r,h,v,k,hm=>by simp only[aT,yT] at h;rcases yI.1 hm with hm|hm;{grind};{exact bX h.2 hm}
theorem RowAt.upd {n:Nat}{x:Option Nat}{m s:Nat}{els:Unit->List (List D)}(h:RowAt w S β m s els)(hm:m≠n):RowAt w S (kK β n x) m s els:=by rcases h with⟨e0,e⟩|⟨b,vs,T,e1,rest⟩;{exact .inl ⟨by grind [wK],e⟩};{exact .inr ⟨b,vs,T,by grind [wK],rest⟩}
theorem ObjAt.upd {n:Nat}{x:Option Nat}{m:Nat}{o:Obj'}(h:ObjAt w S β m o)(hm:m≠n)(hf:fZ n o):ObjAt w S (kK β n x) m o:=by
 cases o with
 |box cs =>
  obtain⟨b,vs,T,e1,e2,e3,e4⟩:=h;exact⟨b,vs,T,by grind [wK],e2,e3,fun j hj=>(e4 j hj).upd (xR rfl hf j)⟩
 |arr s els=>exact RowAt.upd h hm| log s els=>exact RowAt.upd h hm| lent s els =>
  obtain⟨h,hst⟩:=h;exact⟨RowAt.upd h hm,fun b hb i hi=>hst b (by grind [wK]) i hi⟩
 |mp t k=>exact MapAt.to h (wK hm) fun _ _=>rfl| mat s rows hs =>
  obtain⟨hp,h5,h6⟩:=h;refine⟨?_,h5,fun i b hi hb=>by rw[wK hm];exact h6 i b hi hb⟩;rcases hp with⟨e1,e2,e3⟩|⟨b,vs,T,h1,h2,h3,h4,h7⟩;{grind [wK]};{exact .inr ⟨b,vs,T,by grind [wK],h2,h3,fun v k hk=>⟨(h4 v k hk).1,(h4 v k hk).2.upd (bX hf hk)⟩,h7⟩}
theorem Sim.freshO {ps:PS}(h:Sim w0 S0 K0 N (zB ps.tmps) ps.objs a w S β){n:Nat}{O:Obj'}(hf:yH n ps=true)(hO:∀ β':Bm,β' n=none->ObjAt w S β' n O)(hr:∀ i,¬vJ O i):Sim w0 S0 K0 N (zB ps.tmps) (ps.objs++[(n,O)]) a w S (kK β n none):=by
 simp only[yH,yT] at hf;have hmem:∀ {m o},(m,o)∈ps.objs++[(n,O)]->((m,o)∈ps.objs/\m≠n)\/(m=n/\o=O):=by intro m o hm;simp only[vX,vL] at hm;rcases hm with hm|hm;{exact .inl ⟨hm,(yK hf.2 hm).1⟩};grind
 refine⟨h.dfr,h.sz,h.ld,fun t=>(h.tmp t).upd (w9 hf.1 t),⟨?_,?_,?_,?_⟩,?_,?_⟩;{rw[gE,lW];refine⟨h.obj.nd,by simp,?_⟩;intro x hx y hy e;simp at hy;subst hy e;obtain⟨⟨m,o⟩,h1,rfl⟩:=y8.1 hx;exact (yK hf.2 h1).1 rfl};{intro m o hm;rcases hmem hm with⟨h1,h2⟩|⟨rfl,rfl⟩;{exact (h.obj.at_ m o h1).upd h2 (yK hf.2 h1).2};{exact hO _ yV}};{intro m o b hm hβ;rcases hmem hm with⟨h1,h2⟩|⟨rfl,rfl⟩;{exact h.obj.un m o b h1 (vA h2 hβ)};{have:=y7 hr hβ;grind [yV]}};{intro m o m' o' b hm hm' hβ hβ';rcases hmem hm with⟨h1,h2⟩|⟨rfl,rfl⟩;{rcases hmem hm' with⟨h3,h4⟩|⟨rfl,rfl⟩;{exact h.obj.inj _ _ _ _ b h1 h3 (vA h2 hβ) (vA h4 hβ')};{have:=y7 hr hβ';grind [yV]}};{have:=y7 hr hβ;grind [yV]}};{intro m o b hm hβ;rcases hmem hm with⟨h1,h2⟩|⟨rfl,rfl⟩;{exact h.own m o b h1 (vA h2 hβ)};{have:=y7 hr hβ;grind [yV]}};{intro m o hm hb;rcases hmem hm with⟨h1,h2⟩|⟨rfl,rfl⟩;{rw[wK h2];exact h.keep m o h1 hb};{have:=vV hf.2;omega}}
theorem Sim.fresh {ps:PS}(h:Sim w0 S0 K0 N (zB ps.tmps) ps.objs a w S β){n s:Nat}(hf:yH n ps=true):Sim w0 S0 K0 N (zB ps.tmps) (ps.objs++[(n,.arr s (fun _=>[]))]) a w S (kK β n none):=h.freshO hf (fun β' h=>.inl ⟨h,rfl⟩) fun _ hi=>hi
theorem Sim.setT {ps:PS}(h:Sim w0 S0 K0 N (zB ps.tmps) objs a w S β){t:Nat}{x:PV}(hx:Rep w S β (a.tmps.getD t undef) x):Sim w0 S0 K0 N (zB (v7 ps.tmps t x)) objs a w S β :=
 ⟨h.dfr,h.sz,h.ld,fun u=>by
  rw[cS];by_cases e:u=t;{grind}
  ·simpa[e] using h.tmp u,h.obj,h.own,h.keep⟩
theorem xJ:∀ {l:List (Nat×Obj')} {n:Nat} {x:Obj'} {m:Nat} {o:Obj'},(l.map Prod.fst).Nodup->n∈l.map Prod.fst->(m,o)∈setO l n x->(m=n/\o=x)\/(m≠n/\(m,o)∈l)
 |(u,v)::r,n,x,m,o,hnd,hn,hm=>by
  simp only[kA,zC3] at hnd;simp only[setO] at hm;cases hu:nqb u n with
  |true =>
   have:=yY hu;grind
  |false =>
   (have hne:u≠n:=fun e=>by simp_all);simp only[hu,cond_false,yI] at hm
   rcases hm with hm|hm;{grind}
   ·(have hn':n∈r.map Prod.fst:=by grind);rcases xJ hnd.2 hn' hm with h|⟨h1,h2⟩
    all_goals grind
 |[],n,x,m,o,hnd,hn,hm=>by grind
theorem v8:∀ {l:List (Nat×Obj')} {n:Nat} {x:Obj'},n∈l.map Prod.fst->(setO l n x).map Prod.fst=l.map Prod.fst
 |(u,v)::r,n,x,hn=>by
  simp only[setO];cases hu:nqb u n with
  |true=>simp_all| false =>
   (have hne:u≠n:=fun e=>by simp_all);have hn':n∈r.map Prod.fst:=by grind
   simp only[cond_false,kA,v8 hn']
 |[],n,x,hn=>by grind
theorem zTX:∀ {l:List (Nat×Obj')} {n:Nat} {x y:Obj'},(l.map Prod.fst).Nodup->(n,x)∈l->(n,y)∈l->x=y
 |(u,v)::r,n,x,y,hnd,h1,h2=>by simp only[kA,zC3] at hnd;rcases yI.1 h1 with e1|h1;{grind};{rcases yI.1 h2 with e2|h2;{grind};{exact zTX hnd.2 h1 h2}}
theorem Sim.lend {ps:PS}(h:Sim w0 S0 K0 N (zB ps.tmps) ps.objs a w S β){n t:Nat}{o:Obj'}{s:Nat}{els:Unit->List (List D)}(ho:yG ps.objs n=some o)(hr:rowO o=some (s,els))(hf:fo n o (zB ps.tmps t)):∃ S' β',Sim w0 S0 K0 N (zB (v7 ps.tmps t (Go.Proofs.YtaeaffgjdcigoaaGreat.frz n o (zB ps.tmps t)))) (Go.Proofs.YtaeaffgjdcigoaaGreat.setO ps.objs n (.log s els)) a w S' β':=by
 have hmem:=y5 ho;have hsz:=zMT hr;have F:FrzAt w S (fun b i=>S b i\/(β n=some b/\i<szO o)) β n o:=⟨fun b i=>.inl,fun b h i hi=>.inr ⟨h,hi⟩,h.obj.at_ n o hmem,by cases o <;> first|rfl|cases hr⟩;have hpo:∀ i,jW o i->i<szO o:=fun i hi=>by cases o <;> first|exact hi.elim|exact hi
 have hnin:n∈ps.objs.map Prod.fst:=y8.2 ⟨_,hmem,rfl⟩;have h1:Sim w0 S0 K0 N (zB ps.tmps) (Go.Proofs.YtaeaffgjdcigoaaGreat.setO ps.objs n (.log s els)) a w (fun b i=>S b i\/(β n=some b/\i<szO o)) β:=by
  refine⟨h.dfr,h.sz,?_,fun t=>(h.tmp t).mono F.sub,⟨by rw[v8 hnin];exact h.obj.nd,?_,?_,?_⟩,?_,?_⟩
  ·refine⟨h.ld.size,h.ld.os,h.ld.tape,h.ld.output,h.ld.same,h.ld.shape,?_,?_,?_⟩;{rintro b i (hS|hβ);{exact h.ld.bnd b i hS};{exact (h.obj.un n o b hmem (.inl hβ.1)).2}};{exact fun b i hb hS=>.inl (h.ld.sub b i hb hS)}
   ·rintro b i hb hk (hS|hβ);{exact h.ld.old b i hb hk hS}
    ·rcases h.own n o b hmem (.inl hβ.1) with h'|h'
     all_goals grind
  {intro m x hm;rcases xJ h.obj.nd hnin hm with⟨rfl,rfl⟩|⟨_,h2⟩;{exact RowAt.mono (eW hr (h.obj.at_ _ o hmem)) F.sub};{exact (h.obj.at_ m x h2).mono F.sub}};{intro m x b hm hβ;rcases xJ h.obj.nd hnin hm with⟨rfl,rfl⟩|⟨hne,h2⟩;{have hβ:=y7 (by intro _ hi;exact hi) hβ;refine⟨?_,(h.obj.un _ o b hmem (.inl hβ)).2⟩;rintro i (hS|hS);{have:=hpo i ((h.obj.un _ o b hmem (.inl hβ)).1 i hS);rw[hsz] at this;exact this};{rw[hsz] at hS;exact hS.2}};{refine⟨?_,(h.obj.un m x b h2 hβ).2⟩;rintro i (hS|hS);{exact (h.obj.un m x b h2 hβ).1 i hS};{exact absurd (h.obj.inj _ _ _ _ b h2 hmem hβ (.inl hS.1)) hne}}}
  ·(intro m x m' x' b hm hm' hβ hβ';have key:∀ {m x},(m,x)∈Go.Proofs.YtaeaffgjdcigoaaGreat.setO ps.objs n (.log s els)->Own β m x b->∃ x',(m,x')∈ps.objs/\Own β m x' b:=by intro m x hm hb;rcases xJ h.obj.nd hnin hm with⟨rfl,rfl⟩|⟨_,h2⟩;{exact⟨o,hmem,.inl (y7 (by intro _ hi;exact hi) hb)⟩};grind);obtain⟨x1,h1,g1⟩:=key hm hβ;obtain⟨x2,h2,g2⟩:=key hm' hβ';exact h.obj.inj _ _ _ _ b h1 h2 g1 g2
  {intro m x b hm hβ;rcases xJ h.obj.nd hnin hm with⟨rfl,rfl⟩|⟨_,h2⟩;{exact h.own _ o b hmem (.inl (y7 (by intro _ hi;exact hi) hβ))};{exact h.own m x b h2 hβ}};{intro m x hm hb;rcases xJ h.obj.nd hnin hm with⟨rfl,rfl⟩|⟨_,h2⟩;{exact h.keep _ o hmem hb};{exact h.keep m x h2 hb}}
 exact⟨_,β,h1.setT (frz2 F (h.tmp t) hf)⟩
theorem Sim.pub {ps:PS}(h:Sim w0 S0 K0 N (zB ps.tmps) ps.objs a w S β){n:Nat}{o:Obj'}{s:Nat}{els:Unit->List (List D)}(ho:yG ps.objs n=some o)(hr:rowO o=some (s,els)):∃ S' β',Sim w0 S0 K0 N (zB ps.tmps) (Go.Proofs.YtaeaffgjdcigoaaGreat.setO ps.objs n (.lent s els)) a w S' β':=by
 have hmem:=y5 ho;have hsz:=zMT hr;have F:FrzAt w S (fun b i=>S b i\/(β n=some b/\i<szO o)) β n o:=⟨fun b i=>.inl,fun b h i hi=>.inr ⟨h,hi⟩,h.obj.at_ n o hmem,by cases o <;> first|rfl|cases hr⟩;have hpo:∀ i,jW o i->i<szO o:=fun i hi=>by cases o <;> first|exact hi.elim|exact hi
 have hnin:n∈ps.objs.map Prod.fst:=y8.2 ⟨_,hmem,rfl⟩;have h1:Sim w0 S0 K0 N (zB ps.tmps) (Go.Proofs.YtaeaffgjdcigoaaGreat.setO ps.objs n (.lent s els)) a w (fun b i=>S b i\/(β n=some b/\i<szO o)) β:=by
  refine⟨h.dfr,h.sz,?_,fun t=>(h.tmp t).mono F.sub,⟨by rw[v8 hnin];exact h.obj.nd,?_,?_,?_⟩,?_,?_⟩
  ·refine⟨h.ld.size,h.ld.os,h.ld.tape,h.ld.output,h.ld.same,h.ld.shape,?_,?_,?_⟩;{rintro b i (hS|hβ);{exact h.ld.bnd b i hS};{exact (h.obj.un n o b hmem (.inl hβ.1)).2}};{exact fun b i hb hS=>.inl (h.ld.sub b i hb hS)}
   ·rintro b i hb hk (hS|hβ);{exact h.ld.old b i hb hk hS}
    ·rcases h.own n o b hmem (.inl hβ.1) with h'|h'
     all_goals grind
  {intro m x hm;rcases xJ h.obj.nd hnin hm with⟨rfl,rfl⟩|⟨_,h2⟩;{exact⟨RowAt.mono (eW hr (h.obj.at_ _ o hmem)) F.sub,fun b hb i hi=>F.new b hb i oM⟩};{exact (h.obj.at_ m x h2).mono F.sub}};{intro m x b hm hβ;rcases xJ h.obj.nd hnin hm with⟨rfl,rfl⟩|⟨hne,h2⟩;{have hβ:=y7 (by intro _ hi;exact hi) hβ;refine⟨?_,(h.obj.un _ o b hmem (.inl hβ)).2⟩;rintro i (hS|hS);{have:=hpo i ((h.obj.un _ o b hmem (.inl hβ)).1 i hS);rw[hsz] at this;exact this};{rw[hsz] at hS;exact hS.2}};{refine⟨?_,(h.obj.un m x b h2 hβ).2⟩;rintro i (hS|hS);{exact (h.obj.un m x b h2 hβ).1 i hS};{exact absurd (h.obj.inj _ _ _ _ b h2 hmem hβ (.inl hS.1)) hne}}}
  ·(intro m x m' x' b hm hm' hβ hβ';have key:∀ {m x},(m,x)∈Go.Proofs.YtaeaffgjdcigoaaGreat.setO ps.objs n (.lent s els)->Own β m x b->∃ x',(m,x')∈ps.objs/\Own β m x' b:=by intro m x hm hb;rcases xJ h.obj.nd hnin hm with⟨rfl,rfl⟩|⟨_,h2⟩;{exact⟨o,hmem,.inl (y7 (by intro _ hi;exact hi) hb)⟩};grind);obtain⟨x1,h1,g1⟩:=key hm hβ;obtain⟨x2,h2,g2⟩:=key hm' hβ';exact h.obj.inj _ _ _ _ b h1 h2 g1 g2
  {intro m x b hm hβ;rcases xJ h.obj.nd hnin hm with⟨rfl,rfl⟩|⟨_,h2⟩;{exact h.own _ o b hmem (.inl (y7 (by intro _ hi;exact hi) hβ))};{exact h.own m x b h2 hβ}};{intro m x hm hb;rcases xJ h.obj.nd hnin hm with⟨rfl,rfl⟩|⟨_,h2⟩;{exact h.keep _ o hmem hb};{exact h.keep m x h2 hb}}
 grind
theorem Sim.setO (h:Sim w0 S0 K0 N τ objs a w S β){n:Nat}{x:Obj'}(hn:n∈objs.map Prod.fst)(hx:ObjAt w S β n x)(hpub:∀ o0,(n,o0)∈objs->∀ i,jW o0 i->jW x i)(hown:∀ o0,(n,o0)∈objs->∀ b,Own β n x b->Own β n o0 b):Sim w0 S0 K0 N τ (Go.Proofs.YtaeaffgjdcigoaaGreat.setO objs n x) a w S β:=by
 obtain⟨⟨n',o0⟩,hm0,rfl⟩:=y8.1 hn;have key:∀ {m o b},(m,o)∈Go.Proofs.YtaeaffgjdcigoaaGreat.setO objs n' x->Own β m o b->∃ o',(m,o')∈objs/\Own β m o' b:=by
  intro m o b hm hb;rcases xJ h.obj.nd hn hm with⟨rfl,rfl⟩|⟨_,h2⟩
  all_goals grind
 have key0:∀ {m o},(m,o)∈Go.Proofs.YtaeaffgjdcigoaaGreat.setO objs n' x->∃ o',(m,o')∈objs:=by
  intro m o hm;rcases xJ h.obj.nd hn hm with⟨rfl,rfl⟩|⟨_,h2⟩
  all_goals grind
 refine⟨h.dfr,h.sz,h.ld,h.tmp,⟨by rw[v8 hn];exact h.obj.nd,?_,?_,?_⟩,?_,?_⟩;{intro m o hm;rcases xJ h.obj.nd hn hm with⟨rfl,rfl⟩|⟨_,h2⟩;{exact hx};{exact h.obj.at_ m o h2}};{intro m o b hm hβ;rcases xJ h.obj.nd hn hm with⟨rfl,rfl⟩|⟨_,h2⟩;{have hβ:=hown o0 hm0 b hβ;exact⟨fun i hS=>hpub o0 hm0 i ((h.obj.un _ o0 b hm0 hβ).1 i hS),(h.obj.un _ o0 b hm0 hβ).2⟩};{exact h.obj.un m o b h2 hβ}};{intro m o m' o' b hm hm' hβ hβ';obtain⟨x1,h1,g1⟩:=key hm hβ;obtain⟨x2,h2,g2⟩:=key hm' hβ';exact h.obj.inj _ _ _ _ b h1 h2 g1 g2};{intro m o b hm hβ;obtain⟨o',h1,g1⟩:=key hm hβ;exact h.own m o' b h1 g1};{intro m o hm hb;obtain⟨o',h1⟩:=key0 hm;exact h.keep m o' h1 hb}
theorem zIE (cs:List PV)(j k:Nat)(x:PV)(hk:k<cs.length):(cs.set j x).getD k .any=if j=k then x else cs.getD k .any:=by grind
theorem eT {n:Nat}{v pv}(h:Rep w S β v pv):Rep w S β v (sc0 n pv):=by
 cases pv with
 |agg cs=>exact xK _| tup cs=>exact xK _| fn f cs=>exact xK _| ptr m off=>simp only[sc0];cases nqb m n <;> first|exact h|exact xK _
 |aptr m s i off=>simp only[sc0];cases nqb m n <;> first|exact h|exact xK _
 |osl m s i len=>simp only[sc0];cases nqb m n <;> first|exact h|exact xK _
 |mpv m=>simp only[sc0];cases nqb m n <;> first|exact h|exact xK _
 |_=>exact h
theorem zHQ {n:Nat}{v pv}(h:Rep w S β v pv):Rep w S β v (sc1 n pv):=by
 cases pv with
 |agg cs =>
  obtain⟨vs,rfl,h1,h2⟩:=qL h;exact .agg (by grind [zL]) fun j hj=>by rw[zL] at hj;rw[yJ _ rfl];grind [eT]
 |tup cs =>
  obtain⟨vs,rfl,h1,h2⟩:=fK h;exact .tup (by grind [zL]) fun j hj=>by rw[zL] at hj;rw[yJ _ rfl];grind [eT]
 |fn f cs =>
  obtain⟨vs,rfl,h1,h2⟩:=gM h;exact .fn (by grind [zL]) fun j hj=>by rw[zL] at hj;rw[yJ _ rfl];grind [eT]
 |_=>exact eT (n:=n) h
theorem zC6 {n:Nat}{v pv}(h:Rep w S β v pv):Rep w S β v (scr n pv):=by
 cases pv with
 |agg cs =>
  obtain⟨vs,rfl,h1,h2⟩:=qL h;exact .agg (by grind [zL]) fun j hj=>by rw[zL] at hj;rw[yJ _ rfl];grind [zHQ]
 |tup cs =>
  obtain⟨vs,rfl,h1,h2⟩:=fK h;exact .tup (by grind [zL]) fun j hj=>by rw[zL] at hj;rw[yJ _ rfl];grind [zHQ]
 |fn f cs =>
  obtain⟨vs,rfl,h1,h2⟩:=gM h;exact .fn (by grind [zL]) fun j hj=>by rw[zL] at hj;rw[yJ _ rfl];grind [zHQ]
 |_=>exact eT (n:=n) h
theorem nC (n:Nat):scr n .any=.any:=rfl
theorem Sim.drop {ps:PS}(h:Sim w0 S0 K0 N (zB ps.tmps) ps.objs a w S β)(n:Nat):Sim w0 S0 K0 N (zB (wV (scr n) ps.tmps)) (y4 (scr n) (xO ps.objs n)) a w S β:=by
 refine⟨h.dfr,h.sz,h.ld,fun t=>by rw[kU _ (nC n)];exact zC6 (h.tmp t),⟨?_,?_,?_,?_⟩,?_,?_⟩;{rw[gQ];exact (mP _ _).nodup h.obj.nd}
 ·intro m o' hm;obtain⟨o'',h1,h2⟩:=wQ _ hm;obtain⟨h3,h4⟩:=wT h1;have hat:=h.obj.at_ m o'' h3;cases o'' with
  |box cs =>
   subst h2;obtain⟨b,vs,T,e1,e2,e3,e4⟩:=hat;exact⟨b,vs,T,e1,e2,by grind [zL],fun j hj=>by grind [zL,yJ,nC,zC6]⟩
  |arr s els=>subst h2;exact hat| log s els=>subst h2;exact hat| lent s els=>subst h2;exact hat| mp t k=>subst h2;exact hat| mat s rows hs=>subst h2;exact MatAt.map hat (fun _ _ h=>h) fun v x k hk hv=>zC6 hv
 {intro m o' b hm hβ;obtain⟨o'',h1,rfl⟩:=wQ _ hm;have:=h.obj.un m o'' b (wT h1).1 (uE hβ);grind [rM]};{intro m o' m' o'' b hm hm' hβ hβ';obtain⟨x,h1,rfl⟩:=wQ _ hm;obtain⟨y,h2,rfl⟩:=wQ _ hm';exact h.obj.inj _ _ _ _ b (wT h1).1 (wT h2).1 (uE hβ) (uE hβ')};{intro m o' b hm hβ;obtain⟨x,h1,rfl⟩:=wQ _ hm;exact h.own m x b (wT h1).1 (uE hβ)};{intro m o' hm hb;obtain⟨x,h1,_⟩:=wQ _ hm;exact h.keep m x (wT h1).1 hb}
theorem Sim.adopt {ps:PS}(h:Sim w0 S0 K0 N (zB ps.tmps) ps.objs a w S β){n s m j:Nat}{cs:List PV}{O:Obj'}(hO:∀ β':Bm,β' n=none->ObjAt w S β' n O)(hr:∀ i,¬vJ O i)(hf:yH n ps=true)(ho:yG ps.objs m=some (.box cs))(hj:jD (cs.getD j .any)=true):∃ S' β',Sim w0 S0 K0 N (zB ps.tmps) (Go.Proofs.YtaeaffgjdcigoaaGreat.setO ps.objs m (.box (cs.set j (.osl n s (fun _=>0) (fun _=>0))))++[(n,O)]) a w S' β':=by
 have hmem:=y5 ho;have hf':=hf;simp only[yH,yT] at hf';have hmn:=(yK hf'.2 hmem).1;have h1:=h.freshO hf hO hr;obtain⟨b,vs,T,e1,e2,e3,e4⟩:=h.obj.at_ m _ hmem;have hin:m∈(ps.objs++[(n,O)]).map Prod.fst:=by grind
 have hjl:j<cs.length:=by refine Nat.lt_of_not_le fun h=>?_;rw[uJ,bE h] at hj;cases hj
 have h2:=h1.setO (n:=m) (x:=.box (cs.set j (.osl n s (fun _=>0) (fun _=>0)))) hin ⟨b,vs,T,by grind [wK],e2,by grind,fun k hk=>by
  simp only[List.length_set] at hk;rw[zIE _ _ _ _ hk];by_cases hjk:j=k;{subst hjk;rw[if_pos rfl];have:=e4 j hk;obtain⟨⟨av,hv⟩,_⟩:=eX hj this;rw[hv];exact .osl0 yV rfl rfl}
  ·rw[if_neg hjk];exact (e4 k hk).upd (xR rfl (yK hf'.2 hmem).2 k)⟩ (fun o0 ho0 i hp=>by
  have hms:(m,Obj'.box cs)∈ps.objs++[(n,O)]:=mY _ hmem;have:=zTX h1.obj.nd ho0 hms;rw[this] at hp;exact hp.elim) (fun o0 _ b hb=>.inl (y7 (by intro _ hi;exact hi) hb))
 refine⟨S,kK β n none,?_⟩;have:Go.Proofs.YtaeaffgjdcigoaaGreat.setO (ps.objs++[(n,O)]) m (.box (cs.set j (.osl n s (fun _=>0) (fun _=>0))))=Go.Proofs.YtaeaffgjdcigoaaGreat.setO ps.objs m (.box (cs.set j (.osl n s (fun _=>0) (fun _=>0))))++[(n,O)]:=by
  have gen:∀ (l:List (Nat×Obj')) (k:List (Nat×Obj')) (x:Obj'),m∈l.map Prod.fst->Go.Proofs.YtaeaffgjdcigoaaGreat.setO (l++k) m x=Go.Proofs.YtaeaffgjdcigoaaGreat.setO l m x++k:=by
   intro l k x hm;induction l with
   |nil=>grind| cons p r ih =>
    obtain⟨u,v⟩:=p;simp only[alT9,Go.Proofs.YtaeaffgjdcigoaaGreat.setO];cases hu:nqb u m with
    |true=>rfl| false =>
     (have hne:u≠m:=fun e=>by simp_all);grind
  grind
 grind
theorem mJ (f:PV->PV):∀ (l k:List (PV×(Unit->Nat))),j7 f (l++k)=j7 f l++j7 f k
 |[],k=>rfl| (v,i)::r,k=>by simp only[alT9,j7,mJ f r k]
theorem Sim.focus {ps:PS}(h:Sim w0 S0 K0 N (zB ps.tmps) ps.objs a w S β){n k:Nat}{i:Unit->Nat}{s:Nat}{rows:Unit->List (List (List D))}{hs:List (PV×(Unit->Nat))}(ho:yG ps.objs n=some (.mat s rows hs))(hf:yH k ps=true)(hi:FocOk i rows hs):Sim w0 S0 K0 N (zB ps.tmps) (Go.Proofs.YtaeaffgjdcigoaaGreat.setO ps.objs n (.mat s rows ((.osl k s (fun _=>0) (fun _=>((rows ()).getD (i ()) []).length),i)::hs))++[(k,.arr s (fun _=>(rows ()).getD (i ()) []))]) a w S (kK β k (β.r n (i ()))):=by
 have hmem:=y5 ho;simp only[yH,yT] at hf;obtain⟨hil,hih⟩:=hi.h;have hnk:n≠k:=(yK hf.2 hmem).1;have hM:MatAt w S β n s rows hs:=h.obj.at_ n _ hmem;have hri:vJ (.mat s rows hs) (i ()):=⟨hil,hih⟩;have hnin:n∈ps.objs.map Prod.fst:=y8.2 ⟨_,hmem,rfl⟩;obtain⟨b0,vs,T,hβ,hb,hsz,hhs,hrs⟩:∃ (b:Nat) (vs:Array Value) (T:TypeId),β n=some b/\w.heap[b]?=some (.cells vs T (0,0))/\(rows ()).length<=vs.size /\
   (∀ v k,(v,k)∈hs->k ()<(rows ()).length/\Rep w S β (vs.getD (k ()) undef) v)/\∀ i,vJ (.mat s rows hs) i->RowIn w S (β.r n i) (vs.getD i undef) s ((rows ()).getD i []):=by
  rcases hM.pl with⟨_,h2,_⟩|h2
  all_goals grind
 have hrow:=hrs _ hri;have hsub:∀ {j},vJ (.mat s rows ((.osl k s (fun _=>0) (fun _=>((rows ()).getD (i ()) []).length),i)::hs)) j->vJ (.mat s rows hs) j/\j≠i () :=
  fun hj=>⟨⟨hj.1,fun v k' hk'=>hj.2 v k' (xN _ hk')⟩,fun e=>hj.2 _ i xM e.symm⟩
 have key:∀ {m o},(m,o)∈Go.Proofs.YtaeaffgjdcigoaaGreat.setO ps.objs n (.mat s rows ((.osl k s (fun _=>0) (fun _=>((rows ()).getD (i ()) []).length),i)::hs))++[(k,Obj'.arr s (fun _=>(rows ()).getD (i ()) []))] ->
   (m=n/\o=.mat s rows ((.osl k s (fun _=>0) (fun _=>((rows ()).getD (i ()) []).length),i)::hs))\/(m≠n/\m≠k/\(m,o)∈ps.objs)\/(m=k/\o=.arr s (fun _=>(rows ()).getD (i ()) [])):=by
  intro m o hm;rcases vX.1 hm with hm|hm;{rcases xJ h.obj.nd hnin hm with h1|⟨h1,h2⟩;{grind};{exact .inr (.inl ⟨h1,(yK hf.2 h2).1,h2⟩)}};grind
 
 have own:∀ {m o b},(m,o)∈Go.Proofs.YtaeaffgjdcigoaaGreat.setO ps.objs n (.mat s rows ((.osl k s (fun _=>0) (fun _=>((rows ()).getD (i ()) []).length),i)::hs))++[(k,Obj'.arr s (fun _=>(rows ()).getD (i ()) []))]->Own (kK β k (β.r n (i ()))) m o b ->
   (m=n/\Own β n (.mat s rows hs) b/\β.r n (i ())≠some b)\/(m≠n/\m≠k/\(m,o)∈ps.objs/\Own β m o b)\/(m=k/\β.r n (i ())=some b):=by
  intro m o b hm hb';rcases key hm with⟨rfl,rfl⟩|⟨h1,h2,h3⟩|⟨rfl,rfl⟩;{refine .inl ⟨rfl,?_⟩;rcases hb' with e|⟨j,hj,e⟩;{rw[wK hnk] at e;exact⟨.inl e,fun e'=>hM.ne _ _ hri e' e⟩};{have e:β.r m j=some b:=e;exact⟨.inr ⟨j,(hsub hj).1,e⟩,fun e'=>(hsub hj).2 (hM.inj _ _ _ (hsub hj).1 hri e e')⟩}};{grind [vA]};{have:=y7 (by intro _ hi;exact hi) hb';rw[yV] at this;grind}
 refine⟨h.dfr,h.sz,h.ld,fun t=>(h.tmp t).upd (w9 hf.1 t),⟨?_,?_,?_,?_⟩,?_,?_⟩;{rw[gE,lW,v8 hnin];refine⟨h.obj.nd,by simp,?_⟩;intro x hx y hy e;simp at hy;subst hy e;obtain⟨⟨m,o⟩,h1,rfl⟩:=y8.1 hx;exact (yK hf.2 h1).1 rfl}
 ·intro m o hm;rcases key hm with⟨rfl,rfl⟩|⟨h1,h2,h3⟩|⟨rfl,rfl⟩
  ·refine⟨.inr ⟨b0,vs,T,by grind [wK],hb,hsz,?_,fun j hj=>hrs j (hsub hj).1⟩,fun j j' b hj hj'=>hM.inj j j' b (hsub hj).1 (hsub hj').1,fun j b hj e=>by rw[wK hnk];exact hM.ne j b (hsub hj).1 e⟩;intro v k' hk';rcases yI.1 hk' with e|hk'
   ·(cases e;refine⟨hil,?_⟩;rcases hrow with⟨e1,e2,aa,e3⟩|⟨b,cap,us,T',e1,e2,e3,e4,e5,_⟩);{rw[e3];exact .osl0 (by grind [yV]) rfl (by grind)}
    {rw[e2];have:=Rep.osl (w:=w) (S:=S) (β:=kK β k (β.r m (i ()))) (n:=k) (s:=s) (cap:=cap) (b:=b) (o:=fun _=>0) (len:=fun _=>((rows ()).getD (i ()) []).length) (by rw[yV];exact e1) e3 e4 (by grind);grind}
   {exact⟨(hhs v k' hk').1,(hhs v k' hk').2.upd (bX (yK hf.2 hmem).2 hk')⟩}
  {exact (h.obj.at_ m o h3).upd h2 (yK hf.2 h3).2};{rcases hrow with⟨e1,e2,_⟩|⟨b,cap,us,T',e1,_,e3,e4,e5,e6,e7⟩;{exact .inl ⟨by grind [yV],e2⟩};{exact .inr ⟨b,us,T',by rw[yV];exact e1,e4,vD (qV _ e3) e5,e6,e7⟩}}
 {intro m o b hm hb';rcases own hm hb' with⟨rfl,h1,_⟩|⟨_,_,h3,h4⟩|⟨rfl,h1⟩;{refine⟨fun j hS=>(h.obj.un _ _ b hmem h1).1 j hS |>.elim,(h.obj.un _ _ b hmem h1).2⟩};{exact h.obj.un m o b h3 h4};{refine⟨fun j hS=>(h.obj.un _ _ b hmem (.inr ⟨_,hri,h1⟩)).1 j hS |>.elim,(h.obj.un _ _ b hmem (.inr ⟨_,hri,h1⟩)).2⟩}}
 ·(intro m o m' o' b hm hm' hb1 hb2;rcases own hm hb1 with⟨rfl,h1,g1⟩|⟨h2,_,h3,h4⟩|⟨rfl,h1⟩ <;> rcases own hm' hb2 with⟨rfl,h1',g1'⟩|⟨h2',_,h3',h4'⟩|⟨rfl,h1'⟩);{rfl}
  {exact h.obj.inj _ _ _ _ b hmem h3' h1 h4'};{grind};{exact h.obj.inj _ _ _ _ b h3 hmem h4 h1'};{exact h.obj.inj _ _ _ _ b h3 h3' h4 h4'};{exact absurd (h.obj.inj _ _ _ _ b h3 hmem h4 (.inr ⟨_,hri,h1'⟩)) h2};{grind};{exact absurd (h.obj.inj _ _ _ _ b h3' hmem h4' (.inr ⟨_,hri,h1⟩)) h2'};{rfl}
 {intro m o b hm hb';rcases own hm hb' with⟨rfl,h1,_⟩|⟨_,_,h3,h4⟩|⟨rfl,h1⟩;{exact h.own _ _ b hmem h1};{exact h.own m o b h3 h4};{exact h.own _ _ b hmem (.inr ⟨_,hri,h1⟩)}};{intro m o hm hb';rcases key hm with⟨rfl,rfl⟩|⟨h1,h2,h3⟩|⟨rfl,rfl⟩;{rw[wK hnk];exact h.keep _ _ hmem hb'};{rw[wK h2];exact h.keep m o h3 hb'};{have:=vV hf.2;omega}}
def updR (β:Bm) (n i:Nat) (x:Option Nat):Bm:=⟨β.o,fun m j=>if m=n/\j=i then x else β.r m j⟩
theorem eF {β:Bm}{n i:Nat}{x:Option Nat}:(updR β n i x).r n i=x:=by simp[updR]
theorem fI {β:Bm}{n i m j:Nat}{x:Option Nat}(h:m≠n\/j≠i):(updR β n i x).r m j=β.r m j:=by show (if m=n/\j=i then x else β.r m j)=β.r m j;grind
theorem ObjAt.updR {n i:Nat}{x:Option Nat}{m:Nat}{o:Obj'}(h:ObjAt w S β m o)(hm:m≠n):ObjAt w S (updR β n i x) m o:=by
 have hp:∀ {v pv},Rep w S β v pv->Rep w S (Go.Proofs.YtaeaffgjdcigoaaGreat.updR β n i x) v pv:=fun h=>Rep.place (β:=β) (βf:=Go.Proofs.YtaeaffgjdcigoaaGreat.updR β n i x) (fun _=>rfl) h;cases o with
 |box cs =>
  obtain⟨b,vs,T,e1,e2,e3,e4⟩:=h;exact⟨b,vs,T,e1,e2,e3,fun j hj=>hp (e4 j hj)⟩
 |arr s els=>exact h| log s els=>exact h| lent s els=>exact h| mp t k=>exact h| mat s rows hs =>
  obtain⟨h1,h2,h3⟩:=h;refine⟨?_,fun j j' b hj hj'=>by grind [fI],fun j b hj=>by rw[fI (.inl hm)];exact h3 j b hj⟩;rcases h1 with h1|⟨b,vs,T,e1,e2,e3,e4,e5⟩;{exact .inl h1};{exact .inr ⟨b,vs,T,e1,e2,e3,fun v k hk=>⟨(e4 v k hk).1,hp (e4 v k hk).2⟩,fun j hj=>by grind [fI]⟩}
theorem Sim.rowIn {objs:List (Nat×Obj')}(h:Sim w0 S0 K0 N τ objs a w S β){n s:Nat}{rows:Unit->List (List (List D))}{hs1 hs2:List (PV×(Unit->Nat))}{v0:PV}{i:Unit->Nat}(hmem:(n,Obj'.mat s rows (hs1++(v0,i)::hs2))∈objs) {x:Option Nat} {els:List (List D)} (hx:∀ b vs T,β n=some b->w.heap[b]?=some (.cells vs T (0,0))->RowIn w S x (vs.getD (i ()) undef) s els) (hfree:∀ b,x=some b->(∀ m o,(m,o)∈objs->¬Own β m o b)/\(w0.heap.size<=b\/K0 b)/\b<w.heap.size/\∀ j,¬S b j):Sim w0 S0 K0 N τ (Go.Proofs.YtaeaffgjdcigoaaGreat.setO objs n (.mat s (fun _=>(rows ()).set (i ()) els) (hs1++hs2))) a w S (updR β n (i ()) x):=by
 have hM:MatAt w S β n s rows (hs1++(v0,i)::hs2):=h.obj.at_ n _ hmem;have hnin:n∈objs.map Prod.fst:=y8.2 ⟨_,hmem,rfl⟩;have hp:∀ {v pv},Rep w S β v pv->Rep w S (updR β n (i ()) x) v pv:=fun h=>Rep.place (β:=β) (βf:=updR β n (i ()) x) (fun _=>rfl) h;have hin:∀ {v k},(v,k)∈hs1++hs2->(v,k)∈hs1++(v0,i)::hs2:=fun hk=>by grind
 obtain⟨b0,vs,T,hβ,hb,hsz,hhs,hrs⟩:∃ (b:Nat) (vs:Array Value) (T:TypeId),β n=some b/\w.heap[b]?=some (.cells vs T (0,0))/\(rows ()).length<=vs.size /\
   (∀ v k,(v,k)∈hs1++(v0,i)::hs2->k ()<(rows ()).length/\Rep w S β (vs.getD (k ()) undef) v)/\∀ j,vJ (.mat s rows (hs1++(v0,i)::hs2)) j->RowIn w S (β.r n j) (vs.getD j undef) s ((rows ()).getD j []):=by
  rcases hM.pl with⟨_,_,h2⟩|h2;{grind};omega
 have hil:i ()<(rows ()).length:=(hhs v0 i (mX _ xM)).1;have hrow:∀ {j},vJ (.mat s (fun _=>(rows ()).set (i ()) els) (hs1++hs2)) j->j≠i ()->vJ (.mat s rows (hs1++(v0,i)::hs2)) j:=by intro j hj hne;refine⟨by simpa using hj.1,fun v k hk=>?_⟩;rcases vX.1 hk with h'|h';{exact hj.2 v k (mY _ h')};{rcases yI.1 h' with e|h';{grind};{exact hj.2 v k (mX _ h')}}
 have key:∀ {m o},(m,o)∈Go.Proofs.YtaeaffgjdcigoaaGreat.setO objs n (.mat s (fun _=>(rows ()).set (i ()) els) (hs1++hs2))->(m=n/\o=.mat s (fun _=>(rows ()).set (i ()) els) (hs1++hs2))\/(m≠n/\(m,o)∈objs):=fun hm=>xJ h.obj.nd hnin hm;have own:∀ {m o b},(m,o)∈Go.Proofs.YtaeaffgjdcigoaaGreat.setO objs n (.mat s (fun _=>(rows ()).set (i ()) els) (hs1++hs2))->Own (updR β n (i ()) x) m o b->(m=n/\x=some b)\/∃ o',(m,o')∈objs/\Own β m o' b/\(m≠n->o'=o):=by intro m o b hm hb';rcases key hm with⟨rfl,rfl⟩|⟨h1,h2⟩;{rcases hb' with e|⟨j,hj,e⟩;{exact .inr ⟨_,hmem,.inl e,fun h=>absurd rfl h⟩};{by_cases hji:j=i ();{subst hji;rw[eF] at e;grind};{rw[fI (.inr hji)] at e;exact .inr ⟨_,hmem,.inr ⟨j,hrow hj hji,e⟩,fun h=>absurd rfl h⟩}}};{refine .inr ⟨o,h2,?_,fun _=>rfl⟩;rcases hb' with e|⟨j,hj,e⟩;{exact .inl e};{rw[fI (.inl h1)] at e;exact .inr ⟨j,hj,e⟩}}
 refine⟨h.dfr,h.sz,h.ld,fun t=>hp (h.tmp t),⟨by rw[v8 hnin];exact h.obj.nd,?_,?_,?_⟩,?_,?_⟩
 ·intro m o hm;rcases key hm with⟨rfl,rfl⟩|⟨h1,h2⟩
  ·refine⟨.inr ⟨b0,vs,T,hβ,hb,by grind,fun v k hk=>⟨by grind,hp (hhs v k (hin hk)).2⟩,fun j hj=>?_⟩,?_,?_⟩;{by_cases hji:j=i ();{subst hji;rw[eF];grind};{rw[fI (.inr hji)];grind}}
   ·(intro j j' b hj hj' e e';by_cases hji:j=i () <;> by_cases hji':j'=i ());{omega}
    {subst hji;rw[eF] at e;rw[fI (.inr hji')] at e';exact absurd (.inr ⟨j',hrow hj' hji',e'⟩) ((hfree b e).1 m _ hmem)};{subst hji';rw[eF] at e';rw[fI (.inr hji)] at e;exact absurd (.inr ⟨j,hrow hj hji,e⟩) ((hfree b e').1 m _ hmem)};{rw[fI (.inr hji)] at e;rw[fI (.inr hji')] at e';exact hM.inj j j' b (hrow hj hji) (hrow hj' hji') e e'}
   {intro j b hj e e';by_cases hji:j=i ();{subst hji;rw[eF] at e;exact (hfree b e).1 m _ hmem (.inl e')};{rw[fI (.inr hji)] at e;exact hM.ne j b (hrow hj hji) e e'}}
  {exact (h.obj.at_ m o h2).updR h1}
 {intro m o b hm hb';rcases own hm hb' with⟨rfl,e⟩|⟨o',h1,h2,h3⟩;{grind};{refine⟨fun j hS=>?_,(h.obj.un m o' b h1 h2).2⟩;have h4:=(h.obj.un m o' b h1 h2).1 j hS;by_cases hmn:m=n;{subst hmn;have:=zTX h.obj.nd h1 hmem;rw[this] at h4;exact h4.elim};grind}}
 ·(intro m o m' o' b hm hm' hb1 hb2;rcases own hm hb1 with⟨rfl,e⟩|⟨o1,h1,h2,_⟩ <;> rcases own hm' hb2 with⟨rfl,e'⟩|⟨o2,h1',h2',_⟩);{rfl}
  {grind};{grind};{exact h.obj.inj _ _ _ _ b h1 h1' h2 h2'}
 {intro m o b hm hb';rcases own hm hb' with⟨rfl,e⟩|⟨o',h1,h2,_⟩;{grind};{exact h.own m o' b h1 h2}};{intro m o hm hb';rcases key hm with⟨rfl,rfl⟩|⟨h1,h2⟩;{exact h.keep _ _ hmem hb'};{exact h.keep m o h2 hb'}}
theorem rT:∀ {l:List (Nat×Obj')} {n m:Nat} {o:Obj'},(m,o)∈l->m≠n->(m,o)∈xO l n
 |(u,v)::r,n,m,o,hm,hne=>by
  simp only[xO];cases hu:nqb u n with
  |true =>
   rcases yI.1 hm with e|hm;{simp_all};{exact rT hm hne}
  |false =>
   rcases yI.1 hm with e|hm;{grind};{exact xN _ (rT hm hne)}
theorem rS (f:PV->PV):∀ {l:List (Nat×Obj')} {n:Nat} {o:Obj'},(n,o)∈l->(n,xY f o)∈y4 f l
 |(u,v)::r,n,o,hm=>by rcases yI.1 hm with e|hm;{cases e;cases v <;> exact xM};{have:=rS f hm;cases v <;> exact xN _ this}
theorem Sim.unfocus {ps:PS}(h:Sim w0 S0 K0 N (zB ps.tmps) ps.objs a w S β){n k:Nat}{hs1 hs2:List (PV×(Unit->Nat))}{s:Nat}{rows:Unit->List (List (List D))}{i o len:Unit->Nat}{els:Unit->List (List D)}(ho:yG ps.objs n=some (.mat s rows (hs1++(.osl k s o len,i)::hs2)))(hk:yG ps.objs k=some (.arr s els))(hne:nqb n k=false)(h0:o ()=0/\len ()=(els ()).length):Sim w0 S0 K0 N (zB (wV (scr k) ps.tmps)) (Go.Proofs.YtaeaffgjdcigoaaGreat.setO (y4 (scr k) (xO ps.objs k)) n (.mat s (fun _=>(rows ()).set (i ()) (els ())) (j7 (scr k) (hs1++hs2)))) a w S (updR β n (i ()) (β k)):=by
 have hnk:n≠k:=fun e=>by grind
 have hmem:=y5 ho;have hmk:=y5 hk;have hR:RowAt w S β k s els:=h.obj.at_ k _ hmk;have hM:MatAt w S β n s rows (hs1++(.osl k s o len,i)::hs2):=h.obj.at_ n _ hmem;have hin:(n,Obj'.mat s rows (j7 (scr k) hs1++(scr k (.osl k s o len),i)::j7 (scr k) hs2))∈y4 (scr k) (xO ps.objs k):=by have:=rS (scr k) (rT hmem hnk);grind [xY,mJ,j7]
 rw[mJ];refine Sim.rowIn (h.drop k) hin ?_ ?_
 ·intro b vs T hb hw;rcases hM.pl with⟨_,_,h2⟩|⟨b',vs',T',e1,e2,_,e4,_⟩;{grind}
  ·(rw[hb] at e1;cases e1;rw[hw] at e2;cases e2;have hr:=(e4 _ i (mX _ xM)).2;generalize vs.getD (i ()) undef=v at hr ⊢;rcases hR with⟨e5,e6⟩|⟨bk,us,Tk,e5,e6,e7,e8,e9⟩);{refine .inl ⟨e5,e6,?_⟩;grind [qK]}
   {rcases qK hr with⟨g1,_⟩|⟨b1,cap,us1,T1,g1,g3,g4,g5,hv⟩;{grind};{rw[e5] at g1;cases g1;rw[e6] at g4;cases g4;rw[h0.1] at hv g5;refine .inr ⟨bk,cap,us,Tk,e5,by grind,by omega,e6,by grind,e8,e9⟩}}
 {intro b hb;have hob:Own β k (.arr s els) b:=.inl hb;refine⟨fun m o' hm hb'=>?_,h.own k _ b hmk hob,(h.obj.un k _ b hmk hob).2,fun j hS=>(h.obj.un k _ b hmk hob).1 j hS⟩;obtain⟨o'',h1,rfl⟩:=wQ _ hm;obtain⟨h3,h4⟩:=wT h1;exact h4 (h.obj.inj _ _ _ _ b h3 hmk (uE hb') hob)}
theorem Wk.sound {ps ps':PS}(k:Wk ps ps'):∀ {S β},Sim w0 S0 K0 N (zB ps.tmps) ps.objs a w S β->∃ S' β',Sim w0 S0 K0 N (zB ps'.tmps) ps'.objs a w S' β':=by
 induction k with
 |refl ps=>grind| le ht ho hn=>intro S β h;exact⟨S,β,h.le ht ho hn⟩| frz n ho hc hT hO=>intro S β h;exact h.frz ho hc hT hO| lend n t ho hr hf=>intro S β h;exact h.lend ho hr hf| pub n ho hr=>intro S β h;exact h.pub ho hr| fresh n s hf=>intro S β h;exact⟨S,kK β n none,h.fresh hf⟩| drop n=>intro S β h;exact⟨S,β,h.drop n⟩| adoptT n s t hf ht =>
  intro S β h;refine⟨S,kK β n none,(h.fresh hf).setT ?_⟩;have:=h.tmp t;obtain⟨⟨av,hv⟩,_⟩:=eX ht this;rw[hv];exact .osl0 yV rfl rfl
 |adoptB n s m j hf ho hj=>intro S β h;exact h.adopt (fun β' h=>.inl ⟨h,rfl⟩) (fun _ hi=>hi) hf ho hj| adoptM n s m j hf ho hj=>intro S β h;exact h.adopt (fun β' h=>⟨.inl ⟨h,rfl,rfl⟩,fun i j b hi=>absurd hi.1 (by simp),fun i b hi=>absurd hi.1 (by simp)⟩) (fun _ hi=>absurd hi.1 (by simp)) hf ho (by rw[uJ,hj];rfl)| focus n k i ho hf hi=>intro S β h;exact⟨S,_,h.focus ho hf hi⟩| unfocus n k hs1 hs2 ho hk hne h0=>intro S β h;exact⟨S,_,h.unfocus ho hk hne h0⟩| trans _ _ ih1 ih2=>grind
theorem zPR (h:Sim w0 S0 K0 N τ objs a w S β){pv:PV}{v:Value}{K:PV->Prop}(hl:ldV objs pv K)(hr:Rep w S β v pv):∃ pv',K pv'/\Rep w S β v pv':=by
 unfold ldV at hl;cases hn:lnt objs pv with
 |false=>grind| true =>
  rw[hn] at hl;rcases hl.h with hK|⟨n,s,els,h1,h2,h3⟩;{grind};{have hat:=h.obj.at_ n _ (y5 h1);exact⟨_,h3,frz2 (S':=S) (o:=.lent s els) ⟨fun _ _ x=>x,fun b hb i hi=>hat.2 b hb i hi,hat,rfl⟩ hr h2⟩}
theorem zAF {o:Oper}{K:PV->Prop}{Km:Act->World->Prop}{Q:Exit->Act->World->Prop}(h:Sim w0 S0 K0 N τ objs a w S β)(hs:sop objs o.op (ev τ) K) (hk:∀ pv w' S' v,K pv->Leads w S uX w' S'->Rep w' S' β v pv->Km (a.put o.dst v) w'):o.wp Pg a w Km Q:=by
 have he:∀ x,Rep w S β (a.eval x) (ev τ x):=fun x=>h.eval x;have hrefl:Leads w S uX w S:=Leads.refl h.ld.bnd;have fin:∀ pv v,(execOp a.eval o).run Pg w=.ok (.value v) w->K pv->Rep w S β v pv->o.wp Pg a w Km Q:=fun pv v h1 h2 h3=>qN h1 (hk pv w S v h2 hrefl h3);unfold sop at hs;split at hs;{rename_i x hop;exact fin _ _ (by simp[execOp,hop]) hs (he x)};{rename_i x hop;exact fin _ _ (by simp[execOp,hop]) hs (he x)}
 ·rename_i c x y hop;obtain⟨b,hb,ht,hf⟩:=zAV (he c) hs;cases b with
  |true=>exact fin _ _ (by simp[execOp,hop,hb,asBool]) (ht rfl) (he x)| false=>exact fin _ _ (by simp[execOp,hop,hb,asBool]) (hf rfl) (he y)
 {rename_i t parts hop;split at hs;{rename_i n fs z ht;split at hs;{rename_i cs hf;obtain⟨vs,h1,h2⟩:=zGS ht he hf;exact fin _ _ (by simp[execOp,hop,h1]) hs (.agg h2.1 h2.2)};grind};{rename_i len n ag z ht;split at hs;{rename_i cs hf;obtain⟨vs,h1,h2⟩:=zET ht he hf;exact fin _ _ (by simp[execOp,hop,h1]) hs (.agg h2.1 h2.2)};grind};grind}
 ·rename_i t len parts hop;split at hs
  ·rename_i n b z ht;split at hs
   ·rename_i els hf;cases hc:(nle (len*n) 1000&&mQ els) with
    |false=>grind| true =>
     simp only[hc,cond_true] at hs;simp only[yT] at hc;obtain⟨w',S',v,h1,h2,h3⟩:=zBJ ht h.ld.bnd he hf (mF hc.1) hc.2;exact qN (by simp[execOp,hop,h1]) (hk _ _ _ _ hs h2 h3)
   grind
  grind
 ·rename_i t x hop;split at hs;{rename_i cs off hx;have hr:=he x;rw[hx] at hr;obtain⟨b,o',vals,hS,hv,hf,hc,hrr⟩:=aR hr;obtain⟨pv,val,h1,h2,h3⟩:=aD (w:=w) (S:=S) (β:=β) hs vals hc (zGT hf hrr);exact fin pv val (by simp[execOp,hop,hv,h2]) h1 h3};{rename_i n off hx;split at hs;{rename_i cs ho;have hr:=he x;rw[hx] at hr;obtain⟨b,hβ,hv⟩:=kC hr;obtain⟨b',vs,T,hβ',hb,hsz,hrr⟩:=zHW h ho;rw[hβ] at hβ';cases hβ';obtain⟨pv,val,h1,h2,h3⟩:=aD (w:=w) (S:=S) (β:=β) (b:=b) (o:=0) hs (fun j=>vs.getD j undef) (fun j hj=>by rw[kZ];grind [gJ]) hrr;obtain⟨pv',h1',h3'⟩:=zPR h h1 h3;exact fin pv' val (by rw[kZ] at h2;simp[execOp,hop,hv,h2]) h1' h3'};grind}
  ·rename_i n s i off hx;split at hs
   ·rename_i s' els ho;cases hss:nqb s s' with
    |false=>grind| true =>
     (simp only[hss,cond_true] at hs;have:=yY hss;subst this;obtain⟨c,hcf,hcl,hck,hK⟩:=hs.h;have hr:=he x;rw[hx] at hr;obtain⟨b,hβ,hv⟩:=kP hr;have hlt:i ()<(els ()).length:=by grind);rcases h.obj.at_ n _ (y5 ho) with⟨hn,he0⟩|⟨b',vs,T,hβ',hb,hsz,hwid,hrr⟩
     {grind}
     ·(rw[hβ] at hβ';cases hβ';have hg:(els ()).getD (i ()) []=wB c:=by grind);obtain⟨pv,val,h1,h2,h3⟩:=aD (w:=w) (S:=S) (β:=β) (b:=b) (o:=i ()*s) hK (fun j=>vs.getD (i ()*s+j) undef)
       (fun j hj=>gJ hb _ (by
        have:i ()*s+s<=(els ()).length*s:=by
         calc i ()*s+s=(i ()+1)*s:=by grind
          _<=_:=qV _ hlt
        omega))
       (fun j hj=>by have:=(hrr (i ()) j hlt oM).1;rw[hg,fC] at this;exact .c (xR rfl hcf j) this)
      exact fin pv val (by simp[execOp,hop,hv,h2]) h1 h3
   ·rename_i sm rows hs0 ho;cases hss:(nqb s 1&&nqb off 0) with
    |false=>grind| true =>
     simp only[hss] at hs;simp only[yT] at hss;have e1:=yY hss.1;have e2:=yY hss.2;subst e1 e2;obtain⟨v0,k0,hk0,hki,hK⟩:=hs.h;have hr:=he x;rw[hx] at hr;obtain⟨b,hβ,hv⟩:=kP hr;rcases (show MatAt w S β n sm rows hs0 from h.obj.at_ n _ (y5 ho)).pl with⟨_,_,hn⟩|⟨b',vs,T,hβ',hb,hsz,hhs,_⟩;{grind}
     ·rw[hβ] at hβ';cases hβ';obtain⟨hlt,hrp⟩:=hhs v0 k0 hk0;obtain⟨pv,val,h1,h2,h3⟩:=aD (w:=w) (S:=S) (β:=β) (b:=b) (o:=i ()) hK (fun j=>vs.getD (i ()+j) undef)
       (fun j hj=>gJ hb _ (by grind))
       (fun j hj=>by grind)
      exact fin pv val (by rw[alT5] at h2;simp[execOp,hop,hv,h2]) h1 h3
   ·rename_i cs ho;cases hss:(nqb s 1&&nqb off 0) with
    |false=>grind| true =>
     simp only[hss] at hs;simp only[yT] at hss;have e1:=yY hss.1;have e2:=yY hss.2;subst e1 e2;obtain⟨hi,hK⟩:=hs.h;have hr:=he x;rw[hx] at hr;obtain⟨b,hβ,hv⟩:=kP hr;obtain⟨b',vs,T,hβ',hb,hsz,hcs⟩:=h.obj.at_ n _ (y5 ho);rw[hβ] at hβ';cases hβ';obtain⟨pv,val,h1,h2,h3⟩:=aD (w:=w) (S:=S) (β:=β) (b:=b) (o:=0) hK (fun j=>vs.getD j undef) (fun j hj=>by rw[kZ];grind [gJ]) hcs;exact fin pv val (by simp[execOp,hop,hv] at h2 ⊢;simp[h2]) h1 h3
   grind
  grind
 {rename_i bop t x y yt hop;obtain⟨pv,val,h1,h2,h3⟩:=zL3 (ox:=x) (oy:=y) (fun c e=>by rw[e];rfl) (he x) (he y) hs;exact fin pv val (by simp only[execOp,hop,Sem.run_bind] at h2 ⊢;simp[h2]) h1 h3};{rename_i op t x hop;have hr:=he x;split at hs;{rename_i hx;rw[hx] at hr;exact fin _ (.bool false) (by simp[execOp,hop,Op.unary,iF hr]) hs (.c rfl (.bool false))};{rename_i hx;rw[hx] at hr;exact fin _ (.bool true) (by simp[execOp,hop,Op.unary,zBT hr]) hs (.c rfl (.bool true))};{rename_i b hx;rw[hx] at hr;exact fin _ (.bool (!(b ()))) (by simp[execOp,hop,Op.unary,aS hr]) hs (t6 _)};{rename_i b hx;rw[hx] at hr;exact fin _ (.bool (b ())) (by simp[execOp,hop,Op.unary,aC hr]) hs (rK _)};{rename_i k n hx;rw[hx] at hr;obtain⟨pv,h1,h2⟩:=lB (w:=w) (S:=S) (β:=β) hs;exact fin pv _ (by simp[execOp,hop,Op.unary,vO hr,Op.intArith]) h1 h2};grind}
 ·rename_i src dst x hop;cases hno:(ty src).isNo with
  |true=>grind| false =>
   simp only[hno,cond_false] at hs;split at hs;{rename_i k z k' n ht hx;have hr:=he x;rw[hx] at hr;obtain⟨d,hd⟩:=zXJ hno;obtain⟨i,d',zv,_,h2,_,_,_,_,_,h8,_⟩:=zG2 ht;have h8:=h8 k z rfl;subst h8;refine fin _ _ ?_ hs (aQ k (fun _=>nx k (n ())));cases d <;> simp[execOp,hop,convert,run_underlying hd,run_underlying h2,vO hr,Conv.intToInt,nx]};{rename_i els ht hx;have hr:=he x;rw[hx] at hr;obtain⟨⟨e,h1,h2⟩,h3,ns,h4,h5⟩:=hs.h;obtain⟨a,ln,cap,hv,hb⟩:=zL1 h4 (s4 hr);exact fin _ (.string (zDJ ns)) (by simp[execOp,hop,hv,run_convert_bytes_string w src dst e a ln cap h1 h2 h3,hb]) h5 (.c rfl (.str _))};grind
 {rename_i t x i hop;split at hs;{rename_i n fs z ht;split at hs;{rename_i off sz ag hi;have hr:=he x;split at hs;{rename_i m o' hx;rw[hx] at hr;obtain⟨b,hβ,hv⟩:=kC hr;exact fin _ _ (by simp[execOp,hop,hv,cO ht hi]) hs (.ptr hβ)};{rename_i m s j o' hx;rw[hx] at hr;obtain⟨b,hβ,hv⟩:=kP hr;exact fin _ (.pointer (some ⟨b,j ()*s+(o'+off),none⟩)) (by simp[execOp,hop,hv,cO ht hi,lV]) hs (.aptr hβ)};{rename_i cs o' hx;rw[hx] at hr;obtain⟨b,oo,vals,hS,hv,hf,hc,hrr⟩:=aR hr;exact fin _ (.pointer (some ⟨b,oo+(o'+off),none⟩)) (by simp[execOp,hop,hv,cO ht hi,lV]) hs (.dptr vals hS hf hc hrr)};grind};grind};grind}
 ·rename_i t x i hop;split at hs
  ·rename_i n fs z ht;split at hs
   ·rename_i off sz ag hi;obtain⟨inf,fields,zs,h1,h2,h3,h4,h5,h6,h7,h8⟩:=zG1 ht;rw[h6,bR] at hi;obtain⟨f,hf,hfe⟩:=zHE.1 hi;cases ag with
    |false =>
     simp only at hs;simp only[Prod.mk.injEq] at hfe;obtain⟨q1,q2,q3⟩:=hfe;split at hs
     ·rename_i cs hx;have hr:=he x;rw[hx] at hr;cases hle:(nqb sz 1&&nlt off cs.length) with
      |false=>grind| true =>
       (rw[hle] at hs;simp only[yT] at hle;have hs1:=yY hle.1;have hlt:off<cs.length:=by simp_all);obtain⟨vs,hv,hl,hrr⟩:=qL hr
       (obtain⟨j,hj,hjs⟩:=qG (t:=f.type) (h8 f (yA hf));obtain⟨fields',hu',hU⟩:=zXK ht;rw[h2] at hu';cases hu';obtain⟨d,hd⟩:=zQP.1 (hU f (yA hf));have hd':=rH hd w;rw[q3] at hd';have hfa:fields[i]?=some f:=by grind);have hlv:off<vs.size:=by omega
       (refine fin _ (vs.getD off undef) ?_ hs (hrr off oM);have hj1:j.size=1:=by omega);simp[execOp,hop,hv,Instr.field,run_underlying h2,hfa,asAgg,part,hd',uL hj,hj1,q1,hlv]
     grind
    |true =>
     simp only at hs;simp only[Prod.mk.injEq] at hfe;obtain⟨q1,q2,q3⟩:=hfe;split at hs
     ·rename_i cs hx;have hr:=he x;rw[hx] at hr;cases hle:nle (off+sz) cs.length with
      |false=>grind| true =>
       (simp only[hle] at hs;have hle:off+sz<=cs.length:=by simp_all);obtain⟨vs,hv,hl,hrr⟩:=qL hr
       obtain⟨j,hj,hjs⟩:=qG (t:=f.type) (h8 f (yA hf));obtain⟨d,hd⟩:∃ d,Pg.underlying f.type=some d:=by unfold j2 at q3;grind
       (have hd':=rH hd w;rw[q3] at hd';have hfa:fields[i]?=some f:=by grind);refine fin _ (.agg (vs.extract off (off+sz))) ?_ hs (.agg ?_ ?_)
       {simp[execOp,hop,hv,Instr.field,run_underlying h2,hfa,asAgg,part,hd',uL hj,hjs,q1,q2]};{grind}
       ·(intro k hk;have hk':k<sz:=by grind);have:=hrr (off+k) oM
        (have e1:(vs.extract off (off+sz)).getD k undef=vs.getD (off+k) undef:=by simp only[zQO];grind);grind
     grind
   grind
  grind
 ·rename_i t x i hop;split at hs;{rename_i n b z els k kv ht hx hi;obtain⟨inf,el,j,zv,h1,h2,h3,h4,h5,h6,h7,h8,h9,h10,h11,h12⟩:=uW ht;have hr:=he x;have hri:=he i;rw[hx] at hr;rw[hi] at hri;obtain⟨hk0,c,hcf,hcl,hck,hK⟩:=hs.h;obtain⟨bb,oo,cap,hv,hlt,hrep⟩:=zV0 (β:=β) (s4 hr) h10 hcf hcl hck;refine fin _ _ ?_ hK hrep;have:=sR (w:=w) h4 h5 bb oo (els ()).length cap k (kv ()) hk0 oM;rw[h7] at this;simp[execOp,hop,hv,vO hri,this]}
  ·rename_i n b z m s o' len k kv ht hx hi;obtain⟨inf,el,j,zv,h1,h2,h3,h4,h5,h6,h7,h8,h9,h10,h11,h12⟩:=uW ht;have hr:=he x;have hri:=he i;rw[hx] at hr;rw[hi] at hri;cases hss:nqb n s with
   |false=>grind| true =>
    simp only[hss,cond_true] at hs;have:=yY hss;subst this;obtain⟨hrg,hK⟩:=hs;rcases qK hr with⟨_,_,hl0,_⟩|⟨bb,cap,vs,T,hβ,hlc,hb,hsz,hv⟩;{have:=hrg.lo;have:=hrg.hi;omega};{refine fin _ _ ?_ hK (.aptr hβ);have:=sR (w:=w) h4 h5 bb (o' ()*n) (len ()) cap k (kv ()) hrg.lo hrg.hi;rw[h7] at this;simp[execOp,hop,hv,vO hri,this,gF]}
  {rename_i len n ag z m o' k kv ht hx hi;obtain⟨inf,el,zs,h1,h2,h3,h4,h5,h6,h7,h8,h8',h8'',h9⟩:=lZ ht;have hr:=he x;have hri:=he i;rw[hx] at hr;rw[hi] at hri;obtain⟨jj,hj1,hj2,hK⟩:=hs.h;obtain⟨b,hβ,hv⟩:=kC hr;obtain⟨j,hj,hjs⟩:=qG (t:=el) oM;refine fin _ _ ?_ hK (.ptr hβ);have:=eV (w:=w) h2 hj b o' k (kv ()) oM oM;rw[hjs,h6,hj1] at this;simp[execOp,hop,hv,vO hri,hj1,this]};grind
 ·rename_i t x i hop;split at hs
  ·rename_i len z cs k kv ht hx hi;obtain⟨inf,el,zs,h1,h2,h3,h4,h5,h6,h7,h8,h8',h8'',h9⟩:=lZ ht;have hr:=he x;have hri:=he i;rw[hx] at hr;rw[hi] at hri;cases hll:nqb len cs.length with
   |false=>grind| true =>
    (simp only[hll,cond_true] at hs;have hll:=yY hll;obtain⟨jj,hj1,hj2,hK⟩:=hs.h;obtain⟨vs,hv,hl,hrr⟩:=qL hr;obtain⟨j,hj,hjs⟩:=qG (t:=el) oM;have hs1:j.size=1:=by omega);obtain⟨d,hd⟩:=zQP.1 h8''
    (have hlt:jj<vs.size:=by omega);refine fin _ (vs.getD jj undef) ?_ hK (hrr jj oM)
    have hd':=rH hd w;rw[h7] at hd';simp[execOp,hop,hv,vO hri,hj1,Instr.index,asIntOf,run_underlying h2,hj2,uL hj,hs1,part,hd',hlt]
  grind
 ·rename_i x i hop;have hr:=he x;split at hs
  ·rename_i vs hx;rw[hx] at hr;cases hlt:nlt i vs.length with
   |false=>grind| true =>
    (simp only[hlt,cond_true] at hs;have hlt:i<vs.length:=by simp_all);obtain⟨us,hv,hl,hrr⟩:=fK hr
    (have hlu:i<us.size:=by omega);exact fin _ (us.getD i undef) (by simp[execOp,hop,hv,Instr.extract,hlu]) hs (hrr i hlt)
  grind
 ·rename_i t x lo hi hop;have hr:=he x;split at hs;{rename_i n b z els ht hx;obtain⟨inf,el,j,zv,h1,h2,h3,h4,h5,h6,h7,h8,h9,h10,h11,h12⟩:=uW ht;rw[hx] at hr;split at hs;{rename_i l hh hl hhh;obtain⟨hok,hw,hK⟩:=hs;have hl':=dL he hl;have hh':=dL he hhh;have:=hok.lo;have:=hok.mid;have:=hok.hi;obtain⟨aa,cap,hv,hcap,hrep⟩:=zLL (s4 hr) hw.h (l:=(l ()).toNat) (h:=(hh ()).toNat) oM oM;refine fin _ _ ?_ hK (.c rfl hrep);have:=s3 (w:=w) (ρ:=a.eval) (a:=aa) h4 h5 hcap hok.lo hok.mid hok.hi (hl'.imp (fun h=>⟨h.1,by rw[h.2]⟩) id) (hh'.imp (fun h=>⟨h.1,by rw[h.2]⟩) id);rw[h7] at this;simp only[execOp,hop,hv,Sem.run_bind,this,Result.andThen_ok,Sem.run_pure]};grind}
  ·rename_i n b z m s o' len ht hx;obtain⟨inf,el,j,zv,h1,h2,h3,h4,h5,h6,h7,h8,h9,h10,h11,h12⟩:=uW ht;rw[hx] at hr;split at hs
   ·rename_i l hh hl hhh;cases hss:nqb n s with
    |false=>grind| true =>
     simp only[hss,cond_true] at hs;have:=yY hss;subst this;obtain⟨hok,hne,hK⟩:=hs;have hl':=dL he hl;have hh':=dL he hhh;have:=hok.lo;have:=hok.mid;have:=hok.hi;have:=hne.lt;rcases qK hr with⟨_,_,hl0,_⟩|⟨bb,cap,vs,T,hβ,hlc,hb,hsz,hv⟩;{omega};{refine fin _ _ ?_ hK (.osl (cap:=cap-(l ()).toNat) hβ oM hb ?_);{have:=s3 (w:=w) (ρ:=a.eval) (a:=some ⟨bb,o' ()*n,none⟩) h4 h5 hlc hok.lo hok.mid hok.hi (hl'.imp (fun h=>⟨h.1,by rw[h.2]⟩) id) (hh'.imp (fun h=>⟨h.1,by rw[h.2]⟩) id);rw[h7,if_neg oM] at this;simp only[Option.map_some,kS,<-gF] at this;simp only[execOp,hop,hv,Sem.run_bind,this,Result.andThen_ok,Sem.run_pure]};grind}
   grind
  ·rename_i n b z ht hx;obtain⟨inf,el,j,zv,h1,h2,h3,h4,h5,h6,h7,h8,h9,h10,h11,h12⟩:=uW ht;rw[hx] at hr;have hv:=fL hr;split at hs
   ·(rename_i l hh hl hhh;obtain⟨hok,hK⟩:=hs;have hl':=dL he hl;have hh':=dL he hhh;have:=hok.lo;have:=hok.mid;have:=hok.hi;refine fin _ _ ?_ hK .nil;have:=s3 (w:=w) (ρ:=a.eval) (a:=none) h4 h5 (zZ 0) hok.lo hok.mid hok.hi (hl'.imp (fun h=>⟨h.1,by rw[h.2]⟩) id) (hh'.imp (fun h=>⟨h.1,by omega⟩) id);have e1:(l ()).toNat=0:=by omega);have e2:(hh ()).toNat=0:=by omega
    rw[e1,e2,if_pos rfl] at this;simp only[execOp,hop,hv,Sem.run_bind,this,Result.andThen_ok,Sem.run_pure]
   grind
  grind
 {rename_i x hop;have hr:=he x;split at hs;{rename_i n o' hx;rw[hx] at hr;obtain⟨b,hβ,hv⟩:=kC hr;exact fin _ _ (by simp[execOp,hop,hv]) hs (.ptr hβ)};{rename_i n s i o' hx;rw[hx] at hr;obtain⟨b,hβ,hv⟩:=kP hr;exact fin _ _ (by simp[execOp,hop,hv]) hs (.aptr hβ)};{rename_i c o' hx;rw[hx] at hr;obtain⟨b,oo,vals,hS,hv,hf,hc,hrr⟩:=aR hr;exact fin _ _ (by simp[execOp,hop,hv]) hs (.dptr vals hS hf hc hrr)};grind}
 ·(rename_i f first caps hop);split at hs
  ·(rename_i hfe;have hf0:first=#[]:=by grind);have hc:=zDF he caps.toList
   refine fin _ (.func (.func f) #[] (caps.toList.map a.eval).toArray) ?_ hs (.fn hc.1 hc.2);have:caps.map a.eval=(caps.toList.map a.eval).toArray:=Array.ext' (by simp);simp[execOp,hop,Instr.makeFunc,hf0,<-this]
  grind
 ·rename_i c hop;split at hs
  ·rename_i hcl;split at hs
   ·(rename_i x t hx ht;have hr:=he x;have ha:c.args=#[x]:=by grind);have hta:c.argTypes=#[t]:=by grind
    unfold lenK at hs;split at hs
    ·rename_i n b z hty;obtain⟨inf,el,j,zv,h1,h2,h3,h4,_⟩:=uW hty;split at hs
     ·rename_i els hxe;rw[hxe] at hr;have:=s4 hr;obtain⟨aa,cap,hv,_⟩:∃ aa cap,a.eval x=.slice aa (els ()).length cap/\True:=by
       rcases fM this with⟨e0,aa,cap,hv⟩|⟨bb,oo,cap,s,vals,_,_,_,_,_,_,_,hv⟩
       all_goals grind
      exact fin _ (.int .i64 ((els ()).length:Nat)) (by simp[execOp,hop,resolve,hcl,invoke,Go.builtin,ha,hta,hv,Builtin.len_,run_underlying h4,goInt]) hs (aQ .i64 (fun _=>(((els ()).length:Nat):Int)))
     ·rename_i m s o' l hxe;rw[hxe] at hr;obtain⟨aa,cap,hv⟩:∃ aa cap,a.eval x=.slice aa (l ()) cap:=by
       rcases qK hr with⟨_,_,hl0,aa,hv⟩|⟨bb,cap,vs,T,hβ,hlc,hb,hsz,hv⟩
       all_goals grind
      exact fin _ (.int .i64 (l ():Nat)) (by simp[execOp,hop,resolve,hcl,invoke,Go.builtin,ha,hta,hv,Builtin.len_,run_underlying h4,goInt]) hs (aQ .i64 (fun _=>((l ():Nat):Int)))
     {rename_i hxe;rw[hxe] at hr;have hv:=fL hr;exact fin _ (.int .i64 0) (by simp[execOp,hop,resolve,hcl,invoke,Go.builtin,ha,hta,hv,Builtin.len_,run_underlying h4,goInt]) hs (aQ .i64 (fun _=>0))};{rename_i hxe;rw[hxe] at hr;obtain⟨aa,hv⟩:=eY hr;exact fin _ (.int .i64 0) (by simp[execOp,hop,resolve,hcl,invoke,Go.builtin,ha,hta,hv,Builtin.len_,run_underlying h4,goInt]) hs (aQ .i64 (fun _=>0))};grind
    grind
   grind
  ·rename_i hcl;split at hs
   ·(rename_i x y hx;have ha:c.args=#[x,y]:=by grind);split at hs
    {rename_i k b hxe hye;have hr:=he x;have hr2:=he y;rw[hxe] at hr;rw[hye] at hr2;refine fin _ (.int .i64 (imax (k ()) (b ()))) ?_ hs (aQ .i64 (fun _=>imax (k ()) (b ())));simp[execOp,hop,resolve,hcl,invoke,Go.builtin,ha,vO hr,vO hr2,Builtin.max_,Builtin.max2,imax]};grind
   grind
  ·rename_i hcl;split at hs
   ·(rename_i x y hx;have ha:c.args=#[x,y]:=by grind);split at hs
    {rename_i k b hxe hye;have hr:=he x;have hr2:=he y;rw[hxe] at hr;rw[hye] at hr2;refine fin _ (.int .i64 (imin (k ()) (b ()))) ?_ hs (aQ .i64 (fun _=>imin (k ()) (b ())));simp[execOp,hop,resolve,hcl,invoke,Go.builtin,ha,vO hr,vO hr2,Builtin.min_,Builtin.min2,imin]};grind
   grind
  {rename_i f hcl;split at hs;{rename_i g caps hf;exact mS hop hcl h hf (hs.h.resolve_right fun q=>by cases q.1) hk};grind};grind
 grind
end
end Go.Proofs.YtaeaffgjdcigoaaGreat
