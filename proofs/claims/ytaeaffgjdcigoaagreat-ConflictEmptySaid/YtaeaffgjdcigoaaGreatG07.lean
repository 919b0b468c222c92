/- A part of the proof: PmJ. -/
import Derived.Test.YtaeaffgjdcigoaaGreatG06
set_option linter.all false
namespace Go.Proofs.YtaeaffgjdcigoaaGreat
open Go
section
variable {w0:World} {S0:Nat->Nat->Prop} {K0:Nat->Prop} {N:Cx} {τ:Nat->PV} {objs:List (Nat×Obj')} {a:Act} {w:World} {S S':Nat->Nat->Prop} {β:Bm}
theorem Evo.refl:Evo S w w:=⟨λ_ _ _=>rfl,λb vs T h=>⟨vs,h,rfl⟩⟩
theorem Rep.mono {v pv}(h:Rep w S β v pv)(hS:∀ b i,S b i->S' b i):Rep w S' β v pv:=h.evo Evo.refl hS
theorem kP (f:PV->PV)(hf:f .any=.any):∀ (l:List (Nat×PV)) (t:Nat),zF (uI f l) t=f (zF l t)
 |[],t=>by simp[uI,zF,hf]| (u,v)::r,t=>by
  simp only[uI,zF];cases nqb u t with
  |true=>rfl| false=>exact kP f hf r t
theorem zN (f:PV->PV):∀ (l:List PV),(vG f l).length=l.length
 |[]=>rfl| v::r=>by simp[vG,zN f r]
theorem yJ (f:PV->PV)(hf:f .any=.any):∀ (l:List PV) (j:Nat),(vG f l).getD j .any=f (l.getD j .any)
 |[],j=>by simp[vG,hf]| v::r,0=>by simp[vG]| v::r,j+1=>by simpa[vG] using yJ f hf r j
theorem fI {f:PV->Prop}(hf:f .any):∀ {cs:List PV},VR f cs->∀ j,f (cs.getD j .any)
 |[],_,j=>by grind| c::cs,h,0=>by simpa using h.1| c::cs,h,j+1=>by simpa using fI hf h.2 j
def szO:Obj'->Nat
 |.box cs=>cs.length| .arr s els=>(els ()).length*s| .log s els=>(els ()).length*s| .lent s els=>(els ()).length*s| .mat _ _ _=>0| .mp _ _=>0
theorem oQ {n s:Nat}{els:Unit->List (List D)}{o:Obj'}(hr:VH o=some (s,els))(h:ObjAt w S β n o):RowAt w S β n s els:=by
 cases o with
 |box cs=>cases hr
 |arr s' e=>cases hr;exact h
 |log s' e=>cases hr;exact h
 |lent s' e=>cases hr;exact h.1
 |mat s' r q=>cases hr
 |mp t k=>cases hr
theorem Ht {s:Nat}{els:Unit->List (List D)}{o:Obj'}(hr:VH o=some (s,els)):szO o=(els ()).length*s:=by
 cases o with
 |box cs=>cases hr
 |arr s' e=>cases hr;rfl
 |log s' e=>cases hr;rfl
 |lent s' e=>cases hr;rfl
 |mat s' r q=>cases hr
 |mp t k=>cases hr
structure FrzAt (w:World) (S S':Nat->Nat->Prop) (β:Bm) (n:Nat) (o:Obj'):Prop where
 sub:∀ b i,S b i->S' b i
 new:∀ b,β n=some b->∀ i,i<szO o->S' b i
 at_:ObjAt w S β n o
 cl:Y5 o=true
theorem Ah {n:Nat}{o:Obj'}(F:FrzAt w S S' β n o){v pv}(h:Rep w S β v pv)(hf:fo0 n o pv):Rep w S' β v (fz0 n o pv):=by
 have hm:=h.mono F.sub;cases pv with
 |agg cs=>exact xS _| tup cs=>exact xS _| fn f cs=>exact xS _| ptr m off =>
  simp only[fz0];cases hb:nqb m n with
  |false=>exact hm| true =>
   have:=xC hb;subst this;simp only[cond_true];cases o with
   |arr s els=>exact xS _| log s els=>exact xS _| lent s els=>exact xS _| mat s r q=>exact xS _| mp t k=>exact xS _| box cs =>
    obtain⟨b,hβ,rfl⟩:=kF h;obtain⟨b',vs,T,hβ',hw,hsz,hr⟩:=F.at_;rw[hβ] at hβ';cases hβ';have hcl:=F.cl;simp only[Y5] at hcl;have hfl:yS qZ (vG WU cs)=true:=by
     have:∀ (l:List PV),yS iY l=true->yS qZ (vG WU l)=true:=by
      intro l;induction l with
      |nil=>intro _;rfl
      |cons c l ih =>
       intro h;simp only[yS,yK,vG] at h ⊢;exact⟨by cases c <;> simp_all [iY,WU,qZ],ih h.2⟩
     grind
    show Rep w S' β _ (.dptr (vG WU cs) off)
    suffices key:Rep w S' β (.pointer (some ⟨b,0+off,none⟩)) (.dptr (vG WU cs) off) by grind
    refine Rep.dptr (o:=0) (λj=>vs.getD j undef) (λj hj=>F.new b hβ _ (by grind [zN,szO])) hfl (λj hj=>?_) (λj hj=>?_);{rw[zN] at hj;rw[jQ];grind [cR]}
    ·(rw[zN] at hj;rw[yJ _ rfl];have h1:=m0 ((hr j hj).mono F.sub) (xR rfl hcl j);have h2:∀ x:PV,toD (WU x)=toD x:=by intro x;cases x <;> rfl);grind
 |aptr m s i off =>
  simp only[fz0];cases hb:nqb m n with
  |false=>exact hm| true=>exact xS _
 |mpv m=>simp only[fz0];cases nqb m n <;> first|exact hm|exact xS _
 |osl m s i len =>
  simp only[fz0];cases hb:nqb m n with
  |false=>exact hm| true =>
   have:=xC hb;subst this;simp only[cond_true];cases hro:VH o with
   |none=>exact xS _| some p =>
    obtain⟨s',els⟩:=p;simp only[fo0,hb,hro] at hf;have hf:=hf.h;show Rep w S' β v ((match nqb s s' with|true=>PV.sl (λ_=>((els ()).drop (i ())).take (len ()))|false=>.any));cases hss:nqb s s' with
    |false=>exact xS _| true =>
     have:=xC hss;subst this;simp only[cond_true];refine .c rfl ?_;simp only[toD];rcases gL h with⟨hn,ho,hl,aa,rfl⟩|⟨b,cap,vs,T,hβ,hlc,hw,hsz,rfl⟩;{rw[hl];simpa using RepD.sl0 _ _}
     ·rcases oQ hro F.at_ with⟨hn,_⟩|⟨b',vs',T',hβ',hw',hsz',hwid,hr⟩;{grind}
      ·(rw[hβ] at hβ';cases hβ';rw[hw] at hw';cases hw';have hlen:(((els ()).drop (i ())).take (len ())).length=len ():=by grind);by_cases h0:len ()=0
       {rw[h0];simpa using RepD.sl0 _ _}
       ·(have hg:∀ k,k<len ()->(((els ()).drop (i ())).take (len ())).getD k []=(els ()).getD (i ()+k) []:=by grind);have key:=RepD.sl (w:=w) (S:=S') (b:=b) (o:=i ()*s) (cap:=cap) (s:=s) (els:=((els ()).drop (i ())).take (len ())) (λk j=>vs.getD ((i ()+k)*s+j) undef)
         (by grind) oM
         (λk j hk hj=>F.new b hβ _ (by
          rw[hlen] at hk;rw[Ht hro];have:(i ()+k)*s+s<=(els ()).length*s:=by
           calc (i ()+k)*s+s=(i ()+k+1)*s:=by grind
            _<=_:=jC _ oM
          grind))
         (λe he=>hwid e (List.mem_of_mem_drop (s7 he)))
         (λk j hk hj=>by
          rw[hlen] at hk;have hlt:(i ()+k)*s+j<vs.size:=by
           have:(i ()+k)*s+s<=(els ()).length*s:=by
            calc (i ()+k)*s+s=(i ()+k+1)*s:=by grind
             _<=_:=jC _ oM
           omega
          rw[<-cR hw _ hlt,gI])
         (λk j hk hj=>by grind)
         (λk j hk hj=>by rw[hlen] at hk;rw[hg k hk];exact ((hr (i ()+k) j oM hj).1).evo (λ_ _ _=>rfl) F.sub)
        grind
 |int k x=>exact hm| tt=>exact hm| ff=>exact hm| bool b=>exact hm| nbool b=>exact hm| str x=>exact hm| nil=>exact hm| sl e=>exact hm| dptr cs o=>exact hm| nilf=>exact hm| nilp=>exact hm| emp=>exact hm| any=>exact hm
theorem Nc {n:Nat}{o:Obj'}(F:FrzAt w S S' β n o){v pv}(h:Rep w S β v pv)(hf:fo1 n o pv):Rep w S' β v (fz1 n o pv):=by
 cases pv with
 |agg cs =>
  obtain⟨vs,rfl,h1,h2⟩:=qR h;exact .agg (by grind [zN]) λj hj=>by rw[zN] at hj;rw[yJ _ rfl];exact Ah F (h2 j hj) (fI trivial hf j)
 |tup cs =>
  obtain⟨vs,rfl,h1,h2⟩:=fQ h;exact .tup (by grind [zN]) λj hj=>by rw[zN] at hj;rw[yJ _ rfl];exact Ah F (h2 j hj) (fI trivial hf j)
 |fn f cs =>
  obtain⟨vs,rfl,h1,h2⟩:=gP h;exact .fn (by grind [zN]) λj hj=>by rw[zN] at hj;rw[yJ _ rfl];exact Ah F (h2 j hj) (fI trivial hf j)
 |_=>exact Ah F h hf
theorem Ag {n:Nat}{o:Obj'}(F:FrzAt w S S' β n o){v pv}(h:Rep w S β v pv)(hf:fo n o pv):Rep w S' β v (frz n o pv):=by
 cases pv with
 |agg cs =>
  obtain⟨vs,rfl,h1,h2⟩:=qR h;exact .agg (by grind [zN]) λj hj=>by rw[zN] at hj;rw[yJ _ rfl];exact Nc F (h2 j hj) (fI trivial hf j)
 |tup cs =>
  obtain⟨vs,rfl,h1,h2⟩:=fQ h;exact .tup (by grind [zN]) λj hj=>by rw[zN] at hj;rw[yJ _ rfl];exact Nc F (h2 j hj) (fI trivial hf j)
 |fn f cs =>
  obtain⟨vs,rfl,h1,h2⟩:=gP h;exact .fn (by grind [zN]) λj hj=>by rw[zN] at hj;rw[yJ _ rfl];exact Nc F (h2 j hj) (fI trivial hf j)
 |_=>exact Ah F h hf
theorem vJ (f:PV->PV):∀ {l:List (Nat×Obj')} {n:Nat} {o:Obj'},(n,o)∈xO f l->∃ o',(n,o')∈l/\o=x9 f o'
 |(m,o1)::r,n,o,h=>by
  (have e:xO f ((m,o1)::r)=(m,x9 f o1)::xO f r:=by cases o1 <;> rfl);rw[e,yI] at h
  rcases h with h|h;{grind};{obtain⟨o',h1,h2⟩:=vJ f h;grind}
theorem gU (f:PV->PV):∀ (l:List (Nat×Obj')),(xO f l).map Prod.fst=l.map Prod.fst
 |[]=>rfl| (m,o1)::r=>by
  (have e:xO f ((m,o1)::r)=(m,x9 f o1)::xO f r:=by cases o1 <;> rfl);rw[e,jB,jB,gU f r]
theorem Zd (f:PV->PV):∀ {hs:List (PV×(Unit->Nat))} {v:PV} {k:Unit->Nat},(v,k)∈sP f hs->∃ v',(v',k)∈hs/\v=f v'
 |(u,j)::r,v,k,h=>by simp only[sP,yI] at h;rcases h with h|h;{grind};{obtain⟨v',h1,h2⟩:=Zd f h;grind}
theorem lK (f:PV->PV):∀ {hs:List (PV×(Unit->Nat))} {v:PV} {k:Unit->Nat},(v,k)∈hs->(f v,k)∈sP f hs
 |(u,j)::r,v,k,h=>by simp only[sP,yI] at h ⊢;rcases h with h|h;{grind};{exact .inr (lK f h)}
theorem jM (f:PV->PV)(o:Obj')(i:Nat):jN (x9 f o) i↔jN o i:=by
 cases o with
 |mat s rows hs =>
  show (_/\_)↔(_/\_);grind [lK,Zd]
 |_=>exact Iff.rfl
theorem qD {f:PV->PV}{n:Nat}{o:Obj'}{b:Nat}(h:Own β n (x9 f o) b):Own β n o b:=by rcases h with h|⟨i,h1,h2⟩;{exact .inl h};{exact .inr ⟨i,(jM f o i).1 h1,h2⟩}
theorem Bu {f:PV->PV}{n:Nat}{o:Obj'}{b:Nat}(h:Own β n o b):Own β n (x9 f o) b:=by rcases h with h|⟨i,h1,h2⟩;{exact .inl h};{exact .inr ⟨i,(jM f o i).2 h1,h2⟩}
theorem pR {f:PV->PV}{o:Obj'}{i:Nat}(h:j8 o i):j8 (x9 f o) i:=by cases o <;> exact h
theorem vK:∀ {l:List (Nat×Obj')} {n m:Nat} {o:Obj'},(m,o)∈uD l n->(m,o)∈l/\m≠n
 |(u,x)::r,n,m,o,h=>by
  simp only[uD] at h;cases hu:nqb u n with
  |true =>
   simp only[hu,cond_true] at h;obtain⟨h1,h2⟩:=vK h;grind
  |false =>
   simp only[hu,cond_false,yI] at h;rcases h with h|h;{cases h;exact⟨xV,λe=>by simp_all⟩};{obtain⟨h1,h2⟩:=vK h;grind}
theorem nR:∀ (l:List (Nat×Obj')) (n:Nat),((uD l n).map Prod.fst).Sublist (l.map Prod.fst)
 |[],n=>by simp[uD]| (u,x)::r,n=>by
  simp only[uD];cases nqb u n with
  |true=>exact (nR r n).trans (List.sublist_cons_self _ _)| false=>exact (nR r n).cons_cons _
theorem JD {n:Nat}{o:Obj'}:∀ {l:List (Nat×PV)},foT n o l->∀ t,fo n o (zF l t)
 |[],_,t=>trivial| (u,v)::r,h,t=>by
  simp only[zF];cases nqb u t with
  |true=>exact h.1| false=>exact JD h.2 t
theorem JE {n u:Nat}{o o1:Obj'}{r:List (Nat×Obj')}(h:foO n o ((u,o1)::r)):foO n o r:=by cases o1 <;> first|exact h|exact h.2
theorem FH {n:Nat}{o:Obj'}:∀ {l:List (Nat×Obj')},foO n o l->∀ {m cs},(m,Obj'.box cs)∈l->VR (fo n o) cs
 |(u,o1)::r,h,m,cs,hm=>by rcases yI.1 hm with hm|hm;{cases hm;exact h.1};{exact FH (JE h) hm}
theorem JF {n:Nat}{o:Obj'}:∀ {l:List (Nat×Obj')},foO n o l->∀ {m s rows hs},(m,Obj'.mat s rows hs)∈l->foH n o hs
 |(u,o1)::r,h,m,s,rows,hs,hm=>by rcases yI.1 hm with hm|hm;{cases hm;exact h.1};{exact JF (JE h) hm}
theorem FI {n:Nat}{o:Obj'}:∀ {hs:List (PV×(Unit->Nat))},foH n o hs->∀ {v k},(v,k)∈hs->fo n o v
 |(u,j)::r,h,v,k,hm=>by rcases yI.1 hm with hm|hm;{cases hm;exact h.1};{exact FI h.2 hm}
theorem RowIn.mono {ob:Option Nat}{v:Value}{s:Nat}{els:List (List D)}(h:RowIn w S ob v s els)(hS:∀ b i,S b i->S' b i):RowIn w S' ob v s els:=by rcases h with h|⟨b,cap,us,T,h1,h2,h3,h4,h5,h6,h7⟩;{exact .inl h};{exact .inr ⟨b,cap,us,T,h1,h2,h3,h4,h5,h6,λi j hi hj=>⟨(h7 i j hi hj).1.evo (λ_ _ _=>rfl) hS,(h7 i j hi hj).2⟩⟩}
theorem MatAt.map {n s:Nat}{rows:Unit->List (List (List D))}{hs:List (PV×(Unit->Nat))}{f:PV->PV}(h:MatAt w S β n s rows hs)(hS:∀ b i,S b i->S' b i)(hf:∀ v x k,(x,k)∈hs->Rep w S β v x->Rep w S' β v (f x)):MatAt w S' β n s rows (sP f hs):=by have hr:=jM f (.mat s rows hs);obtain⟨hp,h5,h6⟩:=h;refine⟨?_,λi j b hi hj=>h5 i j b ((hr i).1 hi) ((hr j).1 hj),λi b hi=>h6 i b ((hr i).1 hi)⟩;rcases hp with⟨e1,e2,e3⟩|⟨b,vs,T,h1,h2,h3,h4,h7⟩;{subst e3;exact .inl ⟨e1,e2,rfl⟩};{refine .inr ⟨b,vs,T,h1,h2,h3,λv k hk=>?_,λi hi=>(h7 i ((hr i).1 hi)).mono hS⟩;obtain⟨v',g1,rfl⟩:=Zd f hk;grind}
theorem RowAt.mono {n s:Nat}{els:Unit->List (List D)}(h:RowAt w S β n s els)(hS:∀ b i,S b i->S' b i):RowAt w S' β n s els:=by rcases h with e|⟨b,vs,T,e1,e2,e3,e4,e5⟩;{exact .inl e};{exact .inr ⟨b,vs,T,e1,e2,e3,e4,λi j hi hj=>⟨(e5 i j hi hj).1.evo (λ_ _ _=>rfl) hS,(e5 i j hi hj).2⟩⟩}
theorem ObjAt.mono {n:Nat}{o:Obj'}(h:ObjAt w S β n o)(hS:∀ b i,S b i->S' b i):ObjAt w S' β n o:=by
 cases o with
 |box cs=>obtain⟨b,vs,T,e1,e2,e3,e4⟩:=h;exact⟨b,vs,T,e1,e2,e3,λj hj=>(e4 j hj).mono hS⟩
 |arr s els=>exact RowAt.mono h hS| log s els=>exact RowAt.mono h hS| lent s els=>exact⟨RowAt.mono h.1 hS,h.2.mono hS⟩| mp t k=>exact h| mat s rows hs =>
  obtain⟨hp,h5,h6⟩:=h;refine⟨?_,h5,h6⟩;rcases hp with hp|⟨b,vs,T,h1,h2,h3,h4,h7⟩;{grind};{exact .inr ⟨b,vs,T,h1,h2,h3,λv k hk=>⟨(h4 v k hk).1,(h4 v k hk).2.mono hS⟩,λi hi=>(h7 i hi).mono hS⟩}
theorem Sim.frz {ps:PS}(h:Sim w0 S0 K0 N (zF ps.tmps) ps.objs a w S β){n:Nat}{o:Obj'}(ho:yO ps.objs n=some o)(hc:Y5 o=true)(hT:foT n o ps.tmps)(hO:foO n o ps.objs):∃ S' β',Sim w0 S0 K0 N (zF (JC n o ps).tmps) (JC n o ps).objs a w S' β':=by
 have hmem:=xL ho;have F:FrzAt w S (λb i=>S b i\/β n=some b) β n o:=⟨λb i=>.inl,λb h i _=>.inr h,h.obj.at_ n o hmem,hc⟩;refine⟨λb i=>S b i\/β n=some b,β,⟨h.dfr,h.sz,?_,?_,?_,?_,?_⟩⟩
 ·refine⟨h.ld.size,h.ld.os,h.ld.tape,h.ld.output,h.ld.same,h.ld.shape,?_,?_,?_⟩;{rintro b i (hS|hβ);{exact h.ld.bnd b i hS};{exact (h.obj.un n o b hmem (.inl hβ)).2}};{exact λb i hb hS=>.inl (h.ld.sub b i hb hS)}
  ·rintro b i hb hk (hS|hβ);{exact h.ld.old b i hb hk hS}
   ·rcases h.own n o b hmem (.inl hβ) with h'|h'
    all_goals grind
 {intro t;simp only[JC];rw[kP _ rfl];exact Ag F (h.tmp t) (JD hT t)}
 ·refine⟨?_,?_,?_,?_⟩;{simp only[JC,gU];exact (nR _ _).nodup h.obj.nd}
  ·intro m o' hm;obtain⟨o'',h1,h2⟩:=vJ _ hm;obtain⟨h3,h4⟩:=vK h1;have hat:=h.obj.at_ m o'' h3;cases o'' with
   |box cs =>
    subst h2;obtain⟨b,vs,T,e1,e2,e3,e4⟩:=hat;exact⟨b,vs,T,e1,e2,by grind [zN],λj hj=>by rw[zN] at hj;rw[yJ _ rfl];exact Ag F (e4 j hj) (fI trivial (FH hO h3) j)⟩
   |arr s els=>subst h2;exact RowAt.mono hat F.sub| log s els=>subst h2;exact RowAt.mono hat F.sub| lent s els=>subst h2;exact⟨RowAt.mono hat.1 F.sub,hat.2.mono F.sub⟩| mp t k=>subst h2;exact hat| mat s rows hs=>subst h2;exact MatAt.map hat F.sub λv x k hk hv=>Ag F hv (FI (JF hO h3) hk)
  {intro m o' b hm hβ;obtain⟨o'',h1,rfl⟩:=vJ _ hm;obtain⟨h3,h4⟩:=vK h1;obtain⟨h5,h6⟩:=h.obj.un m o'' b h3 (qD hβ);refine⟨?_,h6⟩;rintro i (hS|hn);{grind [pR]};{exact absurd (h.obj.inj _ _ _ _ b h3 hmem (qD hβ) (.inl hn)) h4}};{intro m o' m' o'' b hm hm' hβ hβ';obtain⟨x,h1,rfl⟩:=vJ _ hm;obtain⟨y,h2,rfl⟩:=vJ _ hm';exact h.obj.inj _ _ _ _ b (vK h1).1 (vK h2).1 (qD hβ) (qD hβ')}
 {intro m o' b hm hβ;obtain⟨x,h1,rfl⟩:=vJ _ hm;exact h.own m x b (vK h1).1 (qD hβ)};{intro m o' hm hb;obtain⟨x,h1,_⟩:=vJ _ hm;exact h.keep m x (vK h1).1 hb}
theorem s5 {f:PV->PV->Prop}(hf:∀ a b,f a b->Le a b):∀ {a b:List PV},jA f a b->LeL a b
 |[],[],_=>by simp[LeL]| x::a,y::b,h=>by simp only[LeL];exact⟨hf _ _ h.1,s5 hf h.2⟩| [],y::b,h=>h.elim| x::a,[],h=>h.elim
theorem QL {a b:PV}(h:Ji a b):Le a b:=by unfold Ji at h;split at h;{simp only[Le];exact s5 (λ_ _ h=>h.h) h};{simp only[Le];exact s5 (λ_ _ h=>h.h) h};{exact h.h}
theorem dW {a b:PV}(h:les a b):Le a b:=by unfold les at h;split at h;{grind [Le,s5,QL]};{grind [Le,s5,QL]};{grind [Le,xC,s5,QL]};{exact h.h}
theorem lP {a b:List PV}(h:jA les a b):LeL a b:=s5 (λ_ _ h=>dW h) h
theorem Jk {src:List (Nat×PV)}:∀ {l:List (Nat×PV)},leT src l->∀ t,Le (zF src t) (zF l t)
 |[],_,t=>by simp[zF,Le]| (u,v)::r,h,t=>by
  simp only[zF];cases hu:nqb u t with
  |true=>have:=xC hu;subst this;exact dW h.1| false=>exact Jk h.2 t
theorem tO {src:List (Nat×Obj')}:∀ {l:List (Nat×Obj')},leO src l->∀ {n o},(n,o)∈l->∃ o',(n,o')∈src/\VB o' o
 |(u,x)::r,h,n,o,hm=>by simp only[yI] at hm;rcases hm with hm|hm;{cases hm;have h1:=h.1;grind [xL]};{exact tO h.2 hm}
theorem Jw {n:Nat}:∀ {l:List (Nat×Obj')},DU n l=false->n∉l.map Prod.fst
 |[],_=>by simp| (m,o)::r,h=>by simp only[DU,Dd] at h;simp only[jB,yI,not_or];exact⟨λe=>by simp_all,Jw h.2⟩
theorem gZ:∀ {l:List (Nat×Obj')},ndO l=true->(l.map Prod.fst).Nodup
 |[],_=>List.nodup_nil| (n,o)::r,h=>by simp only[ndO,yK,Vq] at h;simp only[jB,mI];exact⟨Jw h.1,gZ h.2⟩
theorem QQ:∀ {hs hs':List (PV×(Unit->Nat))},hLe hs hs'->∀ {v k},(v,k)∈hs'->∃ v' k',(v',k')∈hs/\Le v' v/\k' ()=k ()
 |[],[],_,v,k,hm=>by cases hm
 |(x,j)::r,(y,l)::q,h,v,k,hm=>by rcases yI.1 hm with hm|hm;{cases hm;refine⟨x,j,xV,h.1.1.h,?_⟩;have:=h.1.2.h;simp only[Le,true_and] at this;omega};{obtain⟨v',k',h1,h2⟩:=QQ h.2 hm;grind}
 |[],y::q,h,_,_,_=>h.elim| x::r,[],h,_,_,hm=>h.elim
theorem Jz:∀ {hs hs':List (PV×(Unit->Nat))},hLe hs hs'->∀ {v k},(v,k)∈hs->∃ v' k',(v',k')∈hs'/\k ()=k' ()
 |[],[],_,v,k,hm=>by cases hm
 |(x,j)::r,(y,l)::q,h,v,k,hm=>by rcases yI.1 hm with hm|hm;{cases hm;refine⟨y,l,xV,?_⟩;have:=h.1.2.h;simp only[Le,true_and] at this;omega};{obtain⟨v',k',h1,h2⟩:=Jz h.2 hm;grind}
 |[],y::q,h,_,_,hm=>h.elim| x::r,[],h,_,_,hm=>h.elim
theorem UK {s:Nat}{rows:Unit->List (List (List D))}{hs hs':List (PV×(Unit->Nat))}(h:hLe hs hs')(i:Nat):jN (.mat s rows hs) i↔jN (.mat s rows hs') i:=by show (_/\_)↔(_/\_);grind [QQ,Jz]
inductive ObjLe':Obj'->Obj'->Prop
 |box {a b} (h:LeL a b):ObjLe' (.box a) (.box b)
 |refl (o):ObjLe' o o
 |ll (s els):ObjLe' (.lent s els) (.log s els)
 |mat {s rows hs hs'} (h:hLe hs hs'):ObjLe' (.mat s rows hs) (.mat s rows hs')
theorem XY {o' o:Obj'}(h:VB o' o):ObjLe' o' o:=by
 cases o' <;> cases o <;> first
  |exact h.elim
  |exact .box (lP h)
  |(obtain⟨hs,he⟩:=h;have:=xC hs;subst this;cases fU he.h;first|exact .refl _|exact .ll _ _;done)
  |(obtain⟨hs,he,hh⟩:=h;have:=xC hs;subst this;cases fU he.h;exact .mat hh)
theorem ObjAt.le {n:Nat}{o o':Obj'}(h:ObjAt w S β n o')(hl:VB o' o):ObjAt w S β n o:=by
 cases XY hl with
 |refl=>exact h| ll s els=>exact h.1| box hq =>
  obtain⟨b,vs,T,e1,e2,e3,e4⟩:=h;exact⟨b,vs,T,e1,e2,e3.trans (uS hq),λj hj=>(e4 j (by grind [uS])).le _ (tB hq j hj)⟩
 | @mat s rows hs hs' hh =>
  obtain⟨hp,h5,h6⟩:=h;have hr:=λi=>UK (s:=s) (rows:=rows) hh i;refine⟨?_,λi j b hi hj=>h5 i j b ((hr i).2 hi) ((hr j).2 hj),λi b hi=>h6 i b ((hr i).2 hi)⟩;rcases hp with⟨e1,e2,e3⟩|⟨b,vs,T,h1,h2,h3,h4,h7⟩
  ·subst e3;refine .inl ⟨e1,e2,?_⟩;cases hs' with
   |nil=>rfl| cons x r=>exact hh.elim
  {exact .inr ⟨b,vs,T,h1,h2,h3,λv k hk=>by obtain⟨v',k',g1,g2,g3⟩:=QQ hh hk;rw[<-g3];exact⟨(h4 v' k' g1).1,(h4 v' k' g1).2.le _ g2⟩,λi hi=>h7 i ((hr i).2 hi)⟩}
theorem Bp {o o':Obj'}(hl:VB o' o){i:Nat}(h:j8 o' i):j8 o i:=by
 cases XY hl with
 |refl=>exact h| ll s els=>exact h| box hl=>exact h.elim| mat hh=>exact h.elim
theorem XT {n:Nat}{o o':Obj'}{b:Nat}(hl:VB o' o)(h:Own β n o b):Own β n o' b:=by
 cases XY hl with
 |refl=>exact h| ll s els=>exact .inl (y7 (by intro _ hi;exact hi) h)| box hl=>exact .inl (y7 (by intro _ hi;exact hi) h)| mat hh =>
  rcases h with h|⟨i,h1,h2⟩;{exact .inl h};{exact .inr ⟨i,(UK hh i).2 h1,h2⟩}
theorem Sim.le {ps ps':PS}(h:Sim w0 S0 K0 N (zF ps.tmps) ps.objs a w S β)(ht:leT ps.tmps ps'.tmps)(ho:leO ps.objs ps'.objs)(hn:ndO ps'.objs=true):Sim w0 S0 K0 N (zF ps'.tmps) ps'.objs a w S β where
 dfr:=h.dfr
 sz:=h.sz
 ld:=h.ld
 tmp t:=(h.tmp t).le _ (Jk ht t)
 obj:=⟨gZ hn,λn o hm=>by obtain⟨o',h1,h2⟩:=tO ho hm;exact (h.obj.at_ n o' h1).le h2,
  λn o b hm hβ=>by obtain⟨o',h1,h2⟩:=tO ho hm;exact⟨λi hS=>Bp h2 ((h.obj.un n o' b h1 (XT h2 hβ)).1 i hS),(h.obj.un n o' b h1 (XT h2 hβ)).2⟩,
  λn o m o' b hm hm' hβ hβ'=>by obtain⟨x,h1,g1⟩:=tO ho hm;obtain⟨y,h2,g2⟩:=tO ho hm';exact h.obj.inj _ _ _ _ b h1 h2 (XT g1 hβ) (XT g2 hβ')⟩
 own n o b hm hβ:=by obtain⟨o',h1,g1⟩:=tO ho hm;exact h.own n o' b h1 (XT g1 hβ)
 keep n o hm hb:=by obtain⟨o',h1,_⟩:=tO ho hm;exact h.keep n o' h1 hb
theorem qI {n:Nat}:∀ {l:List (Nat×PV)},pQ n l=true->∀ t,wO n (zF l t)=true
 |[],_,t=>rfl| (u,v)::r,h,t=>by
  simp only[pQ,yK] at h;simp only[zF];cases nqb u t with
  |true=>exact h.1| false=>exact qI h.2 t
def cS (n:Nat):Obj'->Prop
 |.box cs=>wC n cs=true| .arr _ _=>True| .log _ _=>True| .lent _ _=>True| .mat _ _ hs=>sG n hs=true| .mp _ _=>True
theorem iN {n u:Nat}{o:Obj'}{r:List (Nat×Obj')}(h:xI n ((u,o)::r)=true):u≠n/\cS n o/\xI n r=true:=by
 cases o with
 |box cs=>simp only[xI,yK] at h;exact⟨dG h.1.1,h.1.2,h.2⟩| arr s els=>simp only[xI,yK] at h;exact⟨dG h.1,trivial,h.2⟩| log s els=>simp only[xI,yK] at h;exact⟨dG h.1,trivial,h.2⟩| lent s els=>simp only[xI,yK] at h;exact⟨dG h.1,trivial,h.2⟩| mp t k=>simp only[xI,yK] at h;exact⟨dG h.1,trivial,h.2⟩| mat s rows hs=>simp only[xI,yK] at h;exact⟨dG h.1.1,h.1.2,h.2⟩
theorem jH {n:Nat}{l:List (Nat×Obj')}(h:xI n l=true):n<1000000:=by
 induction l with
 |nil=>exact QC (by grind [xI])| cons a r ih=>exact ih (iN (u:=a.1) (o:=a.2) h).2.2
theorem xT {n:Nat}{l:List (Nat×Obj')}(h:xI n l=true):∀ {m o},(m,o)∈l->m≠n/\cS n o:=by
 induction l with
 |nil=>grind| cons a r ih =>
  intro m o hm;obtain⟨h1,h2,h3⟩:=iN (u:=a.1) (o:=a.2) h;grind
theorem tG {n:Nat}:∀ {hs:List (PV×(Unit->Nat))},sG n hs=true->∀ {v k},(v,k)∈hs->wO n v=true
 |(u,j)::r,h,v,k,hm=>by simp only[sG,yK] at h;rcases yI.1 hm with hm|hm;{grind};{exact tG h.2 hm}
theorem RowAt.upd {n:Nat}{x:Option Nat}{m s:Nat}{els:Unit->List (List D)}(h:RowAt w S β m s els)(hm:m≠n):RowAt w S (fL β n x) m s els:=by rcases h with⟨e0,e⟩|⟨b,vs,T,e1,rest⟩;{exact .inl ⟨by grind [v6],e⟩};{exact .inr ⟨b,vs,T,by grind [v6],rest⟩}
theorem ObjAt.upd {n:Nat}{x:Option Nat}{m:Nat}{o:Obj'}(h:ObjAt w S β m o)(hm:m≠n)(hf:cS n o):ObjAt w S (fL β n x) m o:=by
 cases o with
 |box cs =>
  obtain⟨b,vs,T,e1,e2,e3,e4⟩:=h;exact⟨b,vs,T,by grind [v6],e2,e3,λj hj=>(e4 j hj).upd (xR rfl hf j)⟩
 |arr s els=>exact RowAt.upd h hm| log s els=>exact RowAt.upd h hm| lent s els =>
  obtain⟨h,hst⟩:=h;exact⟨RowAt.upd h hm,λb hb i hi=>hst b (by grind [v6]) i hi⟩
 |mp t k=>exact MapAt.to h (v6 hm) λ_ _=>rfl| mat s rows hs =>
  obtain⟨hp,h5,h6⟩:=h;refine⟨?_,h5,λi b hi hb=>by rw[v6 hm];exact h6 i b hi hb⟩;rcases hp with⟨e1,e2,e3⟩|⟨b,vs,T,h1,h2,h3,h4,h7⟩;{grind [v6]};{exact .inr ⟨b,vs,T,by grind [v6],h2,h3,λv k hk=>⟨(h4 v k hk).1,(h4 v k hk).2.upd (tG hf hk)⟩,h7⟩}
theorem Sim.freshO {ps:PS}(h:Sim w0 S0 K0 N (zF ps.tmps) ps.objs a w S β){n:Nat}{O:Obj'}(hf:yV n ps=true)(hO:∀ β':Bm,β' n=none->ObjAt w S β' n O)(hr:∀ i,¬jN O i):Sim w0 S0 K0 N (zF ps.tmps) (ps.objs++[(n,O)]) a w S (fL β n none):=by
 simp only[yV,yK] at hf;have hmem:∀ {m o},(m,o)∈ps.objs++[(n,O)]->((m,o)∈ps.objs/\m≠n)\/(m=n/\o=O):=by intro m o hm;simp only[uQ,kC] at hm;rcases hm with hm|hm;{exact .inl ⟨hm,(xT hf.2 hm).1⟩};grind
 refine⟨h.dfr,h.sz,h.ld,λt=>(h.tmp t).upd (qI hf.1 t),⟨?_,?_,?_,?_⟩,?_,?_⟩;{rw[gH,YL];refine⟨h.obj.nd,by simp,?_⟩;intro x hx y hy e;simp at hy;subst hy e;obtain⟨⟨m,o⟩,h1,rfl⟩:=xA.1 hx;exact (xT hf.2 h1).1 rfl};{intro m o hm;rcases hmem hm with⟨h1,h2⟩|⟨rfl,rfl⟩;{exact (h.obj.at_ m o h1).upd h2 (xT hf.2 h1).2};{exact hO _ xB}};{intro m o b hm hβ;rcases hmem hm with⟨h1,h2⟩|⟨rfl,rfl⟩;{exact h.obj.un m o b h1 (vI h2 hβ)};{have:=y7 hr hβ;grind [xB]}};{intro m o m' o' b hm hm' hβ hβ';rcases hmem hm with⟨h1,h2⟩|⟨rfl,rfl⟩;{rcases hmem hm' with⟨h3,h4⟩|⟨rfl,rfl⟩;{exact h.obj.inj _ _ _ _ b h1 h3 (vI h2 hβ) (vI h4 hβ')};{have:=y7 hr hβ';grind [xB]}};{have:=y7 hr hβ;grind [xB]}};{intro m o b hm hβ;rcases hmem hm with⟨h1,h2⟩|⟨rfl,rfl⟩;{exact h.own m o b h1 (vI h2 hβ)};{have:=y7 hr hβ;grind [xB]}};{intro m o hm hb;rcases hmem hm with⟨h1,h2⟩|⟨rfl,rfl⟩;{rw[v6 h2];exact h.keep m o h1 hb};{have:=jH hf.2;omega}}
theorem Sim.fresh {ps:PS}(h:Sim w0 S0 K0 N (zF ps.tmps) ps.objs a w S β){n s:Nat}(hf:yV n ps=true):Sim w0 S0 K0 N (zF ps.tmps) (ps.objs++[(n,.arr s (λ_=>[]))]) a w S (fL β n none):=h.freshO hf (λβ' h=>.inl ⟨h,rfl⟩) λ_ hi=>hi
theorem Sim.setT {ps:PS}(h:Sim w0 S0 K0 N (zF ps.tmps) objs a w S β){t:Nat}{x:PV}(hx:Rep w S β (a.tmps.getD t undef) x):Sim w0 S0 K0 N (zF (uG ps.tmps t x)) objs a w S β :=
 ⟨h.dfr,h.sz,h.ld,λu=>by
  rw[bB];by_cases e:u=t;{grind}
  ·simpa[e] using h.tmp u,h.obj,h.own,h.keep⟩
theorem xW:∀ {l:List (Nat×Obj')} {n:Nat} {x:Obj'} {m:Nat} {o:Obj'},(l.map Prod.fst).Nodup->n∈l.map Prod.fst->(m,o)∈setO l n x->(m=n/\o=x)\/(m≠n/\(m,o)∈l)
 |(u,v)::r,n,x,m,o,hnd,hn,hm=>by
  simp only[jB,mI] at hnd;simp only[setO] at hm;cases hu:nqb u n with
  |true =>
   have:=xC hu;grind
  |false =>
   (have hne:u≠n:=λe=>by simp_all);simp only[hu,cond_false,yI] at hm
   rcases hm with hm|hm;{grind}
   ·(have hn':n∈r.map Prod.fst:=by grind);rcases xW hnd.2 hn' hm with h|⟨h1,h2⟩
    all_goals grind
 |[],n,x,m,o,hnd,hn,hm=>by grind
theorem qK:∀ {l:List (Nat×Obj')} {n:Nat} {x:Obj'},n∈l.map Prod.fst->(setO l n x).map Prod.fst=l.map Prod.fst
 |(u,v)::r,n,x,hn=>by
  simp only[setO];cases hu:nqb u n with
  |true=>simp_all| false =>
   (have hne:u≠n:=λe=>by simp_all);have hn':n∈r.map Prod.fst:=by grind
   simp only[cond_false,jB,qK hn']
 |[],n,x,hn=>by grind
theorem PJ:∀ {l:List (Nat×Obj')} {n:Nat} {x y:Obj'},(l.map Prod.fst).Nodup->(n,x)∈l->(n,y)∈l->x=y
 |(u,v)::r,n,x,y,hnd,h1,h2=>by simp only[jB,mI] at hnd;rcases yI.1 h1 with e1|h1;{grind};{rcases yI.1 h2 with e2|h2;{grind};{exact PJ hnd.2 h1 h2}}
theorem Sim.lend {ps:PS}(h:Sim w0 S0 K0 N (zF ps.tmps) ps.objs a w S β){n t:Nat}{o:Obj'}{s:Nat}{els:Unit->List (List D)}(ho:yO ps.objs n=some o)(hr:VH o=some (s,els))(hf:fo n o (zF ps.tmps t)):∃ S' β',Sim w0 S0 K0 N (zF (uG ps.tmps t (Go.Proofs.YtaeaffgjdcigoaaGreat.frz n o (zF ps.tmps t)))) (Go.Proofs.YtaeaffgjdcigoaaGreat.setO ps.objs n (.log s els)) a w S' β':=by
 have hmem:=xL ho;have hsz:=Ht hr;have F:FrzAt w S (λb i=>S b i\/(β n=some b/\i<szO o)) β n o:=⟨λb i=>.inl,λb h i hi=>.inr ⟨h,hi⟩,h.obj.at_ n o hmem,by cases o <;> first|rfl|cases hr⟩;have hpo:∀ i,j8 o i->i<szO o:=λi hi=>by cases o <;> first|exact hi.elim|exact hi
 have hnin:n∈ps.objs.map Prod.fst:=xA.2 ⟨_,hmem,rfl⟩;have h1:Sim w0 S0 K0 N (zF ps.tmps) (Go.Proofs.YtaeaffgjdcigoaaGreat.setO ps.objs n (.log s els)) a w (λb i=>S b i\/(β n=some b/\i<szO o)) β:=by
  refine⟨h.dfr,h.sz,?_,λt=>(h.tmp t).mono F.sub,⟨by rw[qK hnin];exact h.obj.nd,?_,?_,?_⟩,?_,?_⟩
  ·refine⟨h.ld.size,h.ld.os,h.ld.tape,h.ld.output,h.ld.same,h.ld.shape,?_,?_,?_⟩;{rintro b i (hS|hβ);{exact h.ld.bnd b i hS};{exact (h.obj.un n o b hmem (.inl hβ.1)).2}};{exact λb i hb hS=>.inl (h.ld.sub b i hb hS)}
   ·rintro b i hb hk (hS|hβ);{exact h.ld.old b i hb hk hS}
    ·rcases h.own n o b hmem (.inl hβ.1) with h'|h'
     all_goals grind
  {intro m x hm;rcases xW h.obj.nd hnin hm with⟨rfl,rfl⟩|⟨_,h2⟩;{exact RowAt.mono (oQ hr (h.obj.at_ _ o hmem)) F.sub};{exact (h.obj.at_ m x h2).mono F.sub}};{intro m x b hm hβ;rcases xW h.obj.nd hnin hm with⟨rfl,rfl⟩|⟨hne,h2⟩;{have hβ:=y7 (by intro _ hi;exact hi) hβ;refine⟨?_,(h.obj.un _ o b hmem (.inl hβ)).2⟩;rintro i (hS|hS);{have:=hpo i ((h.obj.un _ o b hmem (.inl hβ)).1 i hS);rw[hsz] at this;exact this};{rw[hsz] at hS;exact hS.2}};{refine⟨?_,(h.obj.un m x b h2 hβ).2⟩;rintro i (hS|hS);{exact (h.obj.un m x b h2 hβ).1 i hS};{exact absurd (h.obj.inj _ _ _ _ b h2 hmem hβ (.inl hS.1)) hne}}}
  ·(intro m x m' x' b hm hm' hβ hβ';have key:∀ {m x},(m,x)∈Go.Proofs.YtaeaffgjdcigoaaGreat.setO ps.objs n (.log s els)->Own β m x b->∃ x',(m,x')∈ps.objs/\Own β m x' b:=by intro m x hm hb;rcases xW h.obj.nd hnin hm with⟨rfl,rfl⟩|⟨_,h2⟩;{exact⟨o,hmem,.inl (y7 (by intro _ hi;exact hi) hb)⟩};grind);obtain⟨x1,h1,g1⟩:=key hm hβ;obtain⟨x2,h2,g2⟩:=key hm' hβ';exact h.obj.inj _ _ _ _ b h1 h2 g1 g2
  {intro m x b hm hβ;rcases xW h.obj.nd hnin hm with⟨rfl,rfl⟩|⟨_,h2⟩;{exact h.own _ o b hmem (.inl (y7 (by intro _ hi;exact hi) hβ))};{exact h.own m x b h2 hβ}};{intro m x hm hb;rcases xW h.obj.nd hnin hm with⟨rfl,rfl⟩|⟨_,h2⟩;{exact h.keep _ o hmem hb};{exact h.keep m x h2 hb}}
 exact⟨_,β,h1.setT (Ag F (h.tmp t) hf)⟩
theorem Sim.pub {ps:PS}(h:Sim w0 S0 K0 N (zF ps.tmps) ps.objs a w S β){n:Nat}{o:Obj'}{s:Nat}{els:Unit->List (List D)}(ho:yO ps.objs n=some o)(hr:VH o=some (s,els)):∃ S' β',Sim w0 S0 K0 N (zF ps.tmps) (Go.Proofs.YtaeaffgjdcigoaaGreat.setO ps.objs n (.lent s els)) a w S' β':=by
 have hmem:=xL ho;have hsz:=Ht hr;have F:FrzAt w S (λb i=>S b i\/(β n=some b/\i<szO o)) β n o:=⟨λb i=>.inl,λb h i hi=>.inr ⟨h,hi⟩,h.obj.at_ n o hmem,by cases o <;> first|rfl|cases hr⟩;have hpo:∀ i,j8 o i->i<szO o:=λi hi=>by cases o <;> first|exact hi.elim|exact hi
 have hnin:n∈ps.objs.map Prod.fst:=xA.2 ⟨_,hmem,rfl⟩;have h1:Sim w0 S0 K0 N (zF ps.tmps) (Go.Proofs.YtaeaffgjdcigoaaGreat.setO ps.objs n (.lent s els)) a w (λb i=>S b i\/(β n=some b/\i<szO o)) β:=by
  refine⟨h.dfr,h.sz,?_,λt=>(h.tmp t).mono F.sub,⟨by rw[qK hnin];exact h.obj.nd,?_,?_,?_⟩,?_,?_⟩
  ·refine⟨h.ld.size,h.ld.os,h.ld.tape,h.ld.output,h.ld.same,h.ld.shape,?_,?_,?_⟩;{rintro b i (hS|hβ);{exact h.ld.bnd b i hS};{exact (h.obj.un n o b hmem (.inl hβ.1)).2}};{exact λb i hb hS=>.inl (h.ld.sub b i hb hS)}
   ·rintro b i hb hk (hS|hβ);{exact h.ld.old b i hb hk hS}
    ·rcases h.own n o b hmem (.inl hβ.1) with h'|h'
     all_goals grind
  {intro m x hm;rcases xW h.obj.nd hnin hm with⟨rfl,rfl⟩|⟨_,h2⟩;{exact⟨RowAt.mono (oQ hr (h.obj.at_ _ o hmem)) F.sub,λb hb i hi=>F.new b hb i oM⟩};{exact (h.obj.at_ m x h2).mono F.sub}};{intro m x b hm hβ;rcases xW h.obj.nd hnin hm with⟨rfl,rfl⟩|⟨hne,h2⟩;{have hβ:=y7 (by intro _ hi;exact hi) hβ;refine⟨?_,(h.obj.un _ o b hmem (.inl hβ)).2⟩;rintro i (hS|hS);{have:=hpo i ((h.obj.un _ o b hmem (.inl hβ)).1 i hS);rw[hsz] at this;exact this};{rw[hsz] at hS;exact hS.2}};{refine⟨?_,(h.obj.un m x b h2 hβ).2⟩;rintro i (hS|hS);{exact (h.obj.un m x b h2 hβ).1 i hS};{exact absurd (h.obj.inj _ _ _ _ b h2 hmem hβ (.inl hS.1)) hne}}}
  ·(intro m x m' x' b hm hm' hβ hβ';have key:∀ {m x},(m,x)∈Go.Proofs.YtaeaffgjdcigoaaGreat.setO ps.objs n (.lent s els)->Own β m x b->∃ x',(m,x')∈ps.objs/\Own β m x' b:=by intro m x hm hb;rcases xW h.obj.nd hnin hm with⟨rfl,rfl⟩|⟨_,h2⟩;{exact⟨o,hmem,.inl (y7 (by intro _ hi;exact hi) hb)⟩};grind);obtain⟨x1,h1,g1⟩:=key hm hβ;obtain⟨x2,h2,g2⟩:=key hm' hβ';exact h.obj.inj _ _ _ _ b h1 h2 g1 g2
  {intro m x b hm hβ;rcases xW h.obj.nd hnin hm with⟨rfl,rfl⟩|⟨_,h2⟩;{exact h.own _ o b hmem (.inl (y7 (by intro _ hi;exact hi) hβ))};{exact h.own m x b h2 hβ}};{intro m x hm hb;rcases xW h.obj.nd hnin hm with⟨rfl,rfl⟩|⟨_,h2⟩;{exact h.keep _ o hmem hb};{exact h.keep m x h2 hb}}
 grind
theorem Sim.setO (h:Sim w0 S0 K0 N τ objs a w S β){n:Nat}{x:Obj'}(hn:n∈objs.map Prod.fst)(hx:ObjAt w S β n x)(hpub:∀ o0,(n,o0)∈objs->∀ i,j8 o0 i->j8 x i)(hown:∀ o0,(n,o0)∈objs->∀ b,Own β n x b->Own β n o0 b):Sim w0 S0 K0 N τ (Go.Proofs.YtaeaffgjdcigoaaGreat.setO objs n x) a w S β:=by
 obtain⟨⟨n',o0⟩,hm0,rfl⟩:=xA.1 hn;have key:∀ {m o b},(m,o)∈Go.Proofs.YtaeaffgjdcigoaaGreat.setO objs n' x->Own β m o b->∃ o',(m,o')∈objs/\Own β m o' b:=by
  intro m o b hm hb;rcases xW h.obj.nd hn hm with⟨rfl,rfl⟩|⟨_,h2⟩
  all_goals grind
 have key0:∀ {m o},(m,o)∈Go.Proofs.YtaeaffgjdcigoaaGreat.setO objs n' x->∃ o',(m,o')∈objs:=by
  intro m o hm;rcases xW h.obj.nd hn hm with⟨rfl,rfl⟩|⟨_,h2⟩
  all_goals grind
 refine⟨h.dfr,h.sz,h.ld,h.tmp,⟨by rw[qK hn];exact h.obj.nd,?_,?_,?_⟩,?_,?_⟩;{intro m o hm;rcases xW h.obj.nd hn hm with⟨rfl,rfl⟩|⟨_,h2⟩;{exact hx};{exact h.obj.at_ m o h2}};{intro m o b hm hβ;rcases xW h.obj.nd hn hm with⟨rfl,rfl⟩|⟨_,h2⟩;{have hβ:=hown o0 hm0 b hβ;exact⟨λi hS=>hpub o0 hm0 i ((h.obj.un _ o0 b hm0 hβ).1 i hS),(h.obj.un _ o0 b hm0 hβ).2⟩};{exact h.obj.un m o b h2 hβ}};{intro m o m' o' b hm hm' hβ hβ';obtain⟨x1,h1,g1⟩:=key hm hβ;obtain⟨x2,h2,g2⟩:=key hm' hβ';exact h.obj.inj _ _ _ _ b h1 h2 g1 g2};{intro m o b hm hβ;obtain⟨o',h1,g1⟩:=key hm hβ;exact h.own m o' b h1 g1};{intro m o hm hb;obtain⟨o',h1⟩:=key0 hm;exact h.keep m o' h1 hb}
theorem KL (cs:List PV)(j k:Nat)(x:PV)(hk:k<cs.length):(cs.set j x).getD k .any=if j=k then x else cs.getD k .any:=by grind
theorem oJ {n:Nat}{v pv}(h:Rep w S β v pv):Rep w S β v (sc0 n pv):=by
 cases pv with
 |agg cs=>exact xS _| tup cs=>exact xS _| fn f cs=>exact xS _| ptr m off=>simp only[sc0];cases nqb m n <;> first|exact h|exact xS _
 |aptr m s i off=>simp only[sc0];cases nqb m n <;> first|exact h|exact xS _
 |osl m s i len=>simp only[sc0];cases nqb m n <;> first|exact h|exact xS _
 |mpv m=>simp only[sc0];cases nqb m n <;> first|exact h|exact xS _
 |_=>exact h
theorem Qi {n:Nat}{v pv}(h:Rep w S β v pv):Rep w S β v (sc1 n pv):=by
 cases pv with
 |agg cs =>
  obtain⟨vs,rfl,h1,h2⟩:=qR h;exact .agg (by grind [zN]) λj hj=>by rw[zN] at hj;rw[yJ _ rfl];grind [oJ]
 |tup cs =>
  obtain⟨vs,rfl,h1,h2⟩:=fQ h;exact .tup (by grind [zN]) λj hj=>by rw[zN] at hj;rw[yJ _ rfl];grind [oJ]
 |fn f cs =>
  obtain⟨vs,rfl,h1,h2⟩:=gP h;exact .fn (by grind [zN]) λj hj=>by rw[zN] at hj;rw[yJ _ rfl];grind [oJ]
 |_=>exact oJ (n:=n) h
theorem YW {n:Nat}{v pv}(h:Rep w S β v pv):Rep w S β v (scr n pv):=by
 cases pv with
 |agg cs =>
  obtain⟨vs,rfl,h1,h2⟩:=qR h;exact .agg (by grind [zN]) λj hj=>by rw[zN] at hj;rw[yJ _ rfl];grind [Qi]
 |tup cs =>
  obtain⟨vs,rfl,h1,h2⟩:=fQ h;exact .tup (by grind [zN]) λj hj=>by rw[zN] at hj;rw[yJ _ rfl];grind [Qi]
 |fn f cs =>
  obtain⟨vs,rfl,h1,h2⟩:=gP h;exact .fn (by grind [zN]) λj hj=>by rw[zN] at hj;rw[yJ _ rfl];grind [Qi]
 |_=>exact oJ (n:=n) h
theorem n8 (n:Nat):scr n .any=.any:=rfl
theorem Sim.drop {ps:PS}(h:Sim w0 S0 K0 N (zF ps.tmps) ps.objs a w S β)(n:Nat):Sim w0 S0 K0 N (zF (uI (scr n) ps.tmps)) (xO (scr n) (uD ps.objs n)) a w S β:=by
 refine⟨h.dfr,h.sz,h.ld,λt=>by rw[kP _ (n8 n)];exact YW (h.tmp t),⟨?_,?_,?_,?_⟩,?_,?_⟩;{rw[gU];exact (nR _ _).nodup h.obj.nd}
 ·intro m o' hm;obtain⟨o'',h1,h2⟩:=vJ _ hm;obtain⟨h3,h4⟩:=vK h1;have hat:=h.obj.at_ m o'' h3;cases o'' with
  |box cs =>
   subst h2;obtain⟨b,vs,T,e1,e2,e3,e4⟩:=hat;exact⟨b,vs,T,e1,e2,by grind [zN],λj hj=>by grind [zN,yJ,n8,YW]⟩
  |arr s els=>subst h2;exact hat| log s els=>subst h2;exact hat| lent s els=>subst h2;exact hat| mp t k=>subst h2;exact hat| mat s rows hs=>subst h2;exact MatAt.map hat (λ_ _ h=>h) λv x k hk hv=>YW hv
 {intro m o' b hm hβ;obtain⟨o'',h1,rfl⟩:=vJ _ hm;have:=h.obj.un m o'' b (vK h1).1 (qD hβ);grind [pR]};{intro m o' m' o'' b hm hm' hβ hβ';obtain⟨x,h1,rfl⟩:=vJ _ hm;obtain⟨y,h2,rfl⟩:=vJ _ hm';exact h.obj.inj _ _ _ _ b (vK h1).1 (vK h2).1 (qD hβ) (qD hβ')};{intro m o' b hm hβ;obtain⟨x,h1,rfl⟩:=vJ _ hm;exact h.own m x b (vK h1).1 (qD hβ)};{intro m o' hm hb;obtain⟨x,h1,_⟩:=vJ _ hm;exact h.keep m x (vK h1).1 hb}
theorem Sim.adopt {ps:PS}(h:Sim w0 S0 K0 N (zF ps.tmps) ps.objs a w S β){n s m j:Nat}{cs:List PV}{O:Obj'}(hO:∀ β':Bm,β' n=none->ObjAt w S β' n O)(hr:∀ i,¬jN O i)(hf:yV n ps=true)(ho:yO ps.objs m=some (.box cs))(hj:jK (cs.getD j .any)=true):∃ S' β',Sim w0 S0 K0 N (zF ps.tmps) (Go.Proofs.YtaeaffgjdcigoaaGreat.setO ps.objs m (.box (cs.set j (.osl n s (λ_=>0) (λ_=>0))))++[(n,O)]) a w S' β':=by
 have hmem:=xL ho;have hf':=hf;simp only[yV,yK] at hf';have hmn:=(xT hf'.2 hmem).1;have h1:=h.freshO hf hO hr;obtain⟨b,vs,T,e1,e2,e3,e4⟩:=h.obj.at_ m _ hmem;have hin:m∈(ps.objs++[(n,O)]).map Prod.fst:=by grind
 have hjl:j<cs.length:=by refine Nat.lt_of_not_le λh=>?_;rw[fK,tA h] at hj;cases hj
 have h2:=h1.setO (n:=m) (x:=.box (cs.set j (.osl n s (λ_=>0) (λ_=>0)))) hin ⟨b,vs,T,by grind [v6],e2,by grind,λk hk=>by
  simp only[List.length_set] at hk;rw[KL _ _ _ _ hk];by_cases hjk:j=k;{subst hjk;rw[if_pos rfl];have:=e4 j hk;obtain⟨⟨av,hv⟩,_⟩:=oT hj this;rw[hv];exact .osl0 xB rfl rfl}
  ·rw[if_neg hjk];exact (e4 k hk).upd (xR rfl (xT hf'.2 hmem).2 k)⟩ (λo0 ho0 i hp=>by
  have hms:(m,Obj'.box cs)∈ps.objs++[(n,O)]:=UY _ hmem;have:=PJ h1.obj.nd ho0 hms;rw[this] at hp;exact hp.elim) (λo0 _ b hb=>.inl (y7 (by intro _ hi;exact hi) hb))
 refine⟨S,fL β n none,?_⟩;have:Go.Proofs.YtaeaffgjdcigoaaGreat.setO (ps.objs++[(n,O)]) m (.box (cs.set j (.osl n s (λ_=>0) (λ_=>0))))=Go.Proofs.YtaeaffgjdcigoaaGreat.setO ps.objs m (.box (cs.set j (.osl n s (λ_=>0) (λ_=>0))))++[(n,O)]:=by
  have gen:∀ (l:List (Nat×Obj')) (k:List (Nat×Obj')) (x:Obj'),m∈l.map Prod.fst->Go.Proofs.YtaeaffgjdcigoaaGreat.setO (l++k) m x=Go.Proofs.YtaeaffgjdcigoaaGreat.setO l m x++k:=by
   intro l k x hm;induction l with
   |nil=>grind| cons p r ih =>
    obtain⟨u,v⟩:=p;simp only[Yh,Go.Proofs.YtaeaffgjdcigoaaGreat.setO];cases hu:nqb u m with
    |true=>rfl| false =>
     (have hne:u≠m:=λe=>by simp_all);grind
  grind
 grind
theorem lL:∀ {l:List (Nat×Obj')} {n m:Nat} {o:Obj'},(m,o)∈l->m≠n->(m,o)∈uD l n
 |(u,v)::r,n,m,o,hm,hne=>by
  simp only[uD];cases hu:nqb u n with
  |true =>
   rcases yI.1 hm with e|hm;{simp_all};{exact lL hm hne}
  |false =>
   rcases yI.1 hm with e|hm;{grind};{exact xQ _ (lL hm hne)}
theorem lJ (f:PV->PV):∀ {l:List (Nat×Obj')} {n:Nat} {o:Obj'},(n,o)∈l->(n,x9 f o)∈xO f l
 |(u,v)::r,n,o,hm=>by rcases yI.1 hm with e|hm;{cases e;cases v <;> exact xV};{have:=lJ f hm;cases v <;> exact xQ _ this}
theorem Wk.sound {ps ps':PS}(k:Wk ps ps'):∀ {S β},Sim w0 S0 K0 N (zF ps.tmps) ps.objs a w S β->∃ S' β',Sim w0 S0 K0 N (zF ps'.tmps) ps'.objs a w S' β':=by
 induction k with
 |refl ps=>grind| le ht ho hn=>intro S β h;exact⟨S,β,h.le ht ho hn⟩| frz n ho hc hT hO=>intro S β h;exact h.frz ho hc hT hO| lend n t ho hr hf=>intro S β h;exact h.lend ho hr hf| pub n ho hr=>intro S β h;exact h.pub ho hr| fresh n s hf=>intro S β h;exact⟨S,fL β n none,h.fresh hf⟩| drop n=>intro S β h;exact⟨S,β,h.drop n⟩| adoptT n s t hf ht =>
  intro S β h;refine⟨S,fL β n none,(h.fresh hf).setT ?_⟩;have:=h.tmp t;obtain⟨⟨av,hv⟩,_⟩:=oT ht this;rw[hv];exact .osl0 xB rfl rfl
 |adoptB n s m j hf ho hj=>intro S β h;exact h.adopt (λβ' h=>.inl ⟨h,rfl⟩) (λ_ hi=>hi) hf ho hj| trans _ _ ih1 ih2=>grind
theorem DO (h:Sim w0 S0 K0 N τ objs a w S β){pv:PV}{v:Value}{K:PV->Prop}(hl:ldV objs pv K)(hr:Rep w S β v pv):∃ pv',K pv'/\Rep w S β v pv':=by
 unfold ldV at hl;cases hn:lnt objs pv with
 |false=>grind| true =>
  rw[hn] at hl;rcases hl.h with hK|⟨n,s,els,h1,h2,h3⟩;{grind};{have hat:=h.obj.at_ n _ (xL h1);exact⟨_,h3,Ag (S':=S) (o:=.lent s els) ⟨λ_ _ x=>x,λb hb i hi=>hat.2 b hb i hi,hat,rfl⟩ hr h2⟩}
theorem ZM {o:Oper}{K:PV->Prop}{Km:Act->World->Prop}{Q:Exit->Act->World->Prop}(h:Sim w0 S0 K0 N τ objs a w S β)(hs:sop objs o.op (ev τ) K) (hk:∀ pv w' S' v,K pv->Leads w S u7 w' S'->Rep w' S' β v pv->Km (a.put o.dst v) w'):o.wp Pg a w Km Q:=by
 have he:∀ x,Rep w S β (a.eval x) (ev τ x):=λx=>h.eval x;have hrefl:Leads w S u7 w S:=Leads.refl h.ld.bnd;have fin:∀ pv v,(execOp a.eval o).run Pg w=.ok (.value v) w->K pv->Rep w S β v pv->o.wp Pg a w Km Q:=λpv v h1 h2 h3=>kT h1 (hk pv w S v h2 hrefl h3);unfold sop at hs;split at hs;{rename_i x hop;exact fin _ _ (by simp[execOp,hop]) hs (he x)};{rename_i x hop;exact fin _ _ (by simp[execOp,hop]) hs (he x)}
 ·rename_i c x y hop;obtain⟨b,hb,ht,hf⟩:=Ye (he c) hs;cases b with
  |true=>exact fin _ _ (by simp[execOp,hop,hb,asBool]) (ht rfl) (he x)| false=>exact fin _ _ (by simp[execOp,hop,hb,asBool]) (hf rfl) (he y)
 {rename_i t parts hop;split at hs;{rename_i n fs z ht;split at hs;{rename_i cs hf;obtain⟨vs,h1,h2⟩:=Qn ht he hf;exact fin _ _ (by simp[execOp,hop,h1]) hs (.agg h2.1 h2.2)};grind};{rename_i len n ag z ht;split at hs;{rename_i cs hf;obtain⟨vs,h1,h2⟩:=VG ht he hf;exact fin _ _ (by simp[execOp,hop,h1]) hs (.agg h2.1 h2.2)};grind};grind}
 ·rename_i t len parts hop;split at hs
  ·rename_i n b z ht;split at hs
   ·rename_i els hf;cases hc:(nle (len*n) 1000&&nS els) with
    |false=>grind| true =>
     simp only[hc,cond_true] at hs;simp only[yK] at hc;obtain⟨w',S',v,h1,h2,h3⟩:=XL ht h.ld.bnd he hf (nF hc.1) hc.2;exact kT (by simp[execOp,hop,h1]) (hk _ _ _ _ hs h2 h3)
   grind
  grind
 ·rename_i t x hop;split at hs;{rename_i cs off hx;have hr:=he x;rw[hx] at hr;obtain⟨b,o',vals,hS,hv,hf,hc,hrr⟩:=sC hr;obtain⟨pv,val,h1,h2,h3⟩:=aM (w:=w) (S:=S) (β:=β) hs vals hc (Qr hf hrr);exact fin pv val (by simp[execOp,hop,hv,h2]) h1 h3};{rename_i n off hx;split at hs;{rename_i cs ho;have hr:=he x;rw[hx] at hr;obtain⟨b,hβ,hv⟩:=kF hr;obtain⟨b',vs,T,hβ',hb,hsz,hrr⟩:=QA h ho;rw[hβ] at hβ';cases hβ';obtain⟨pv,val,h1,h2,h3⟩:=aM (w:=w) (S:=S) (β:=β) (b:=b) (o:=0) hs (λj=>vs.getD j undef) (λj hj=>by rw[jQ];grind [cR]) hrr;obtain⟨pv',h1',h3'⟩:=DO h h1 h3;exact fin pv' val (by rw[jQ] at h2;simp[execOp,hop,hv,h2]) h1' h3'};grind}
  ·rename_i n s i off hx;split at hs
   ·rename_i s' els ho;cases hss:nqb s s' with
    |false=>grind| true =>
     (simp only[hss,cond_true] at hs;have:=xC hss;subst this;obtain⟨c,hcf,hcl,hck,hK⟩:=hs.h;have hr:=he x;rw[hx] at hr;obtain⟨b,hβ,hv⟩:=jG hr;have hlt:i ()<(els ()).length:=by grind);rcases h.obj.at_ n _ (xL ho) with⟨hn,he0⟩|⟨b',vs,T,hβ',hb,hsz,hwid,hrr⟩
     {grind}
     ·(rw[hβ] at hβ';cases hβ';have hg:(els ()).getD (i ()) []=xE c:=by grind);obtain⟨pv,val,h1,h2,h3⟩:=aM (w:=w) (S:=S) (β:=β) (b:=b) (o:=i ()*s) hK (λj=>vs.getD (i ()*s+j) undef)
       (λj hj=>cR hb _ (by
        have:i ()*s+s<=(els ()).length*s:=by
         calc i ()*s+s=(i ()+1)*s:=by grind
          _<=_:=jC _ hlt
        omega))
       (λj hj=>by have:=(hrr (i ()) j hlt oM).1;rw[hg,fC] at this;exact .c (xR rfl hcf j) this)
      exact fin pv val (by simp[execOp,hop,hv,h2]) h1 h3
   ·rename_i sm rows hs0 ho;cases hss:(nqb s 1&&nqb off 0) with
    |false=>grind| true =>
     simp only[hss] at hs;simp only[yK] at hss;have e1:=xC hss.1;have e2:=xC hss.2;subst e1 e2;obtain⟨v0,k0,hk0,hki,hK⟩:=hs.h;have hr:=he x;rw[hx] at hr;obtain⟨b,hβ,hv⟩:=jG hr;rcases (show MatAt w S β n sm rows hs0 from h.obj.at_ n _ (xL ho)).pl with⟨_,_,hn⟩|⟨b',vs,T,hβ',hb,hsz,hhs,_⟩;{grind}
     ·rw[hβ] at hβ';cases hβ';obtain⟨hlt,hrp⟩:=hhs v0 k0 hk0;obtain⟨pv,val,h1,h2,h3⟩:=aM (w:=w) (S:=S) (β:=β) (b:=b) (o:=i ()) hK (λj=>vs.getD (i ()+j) undef)
       (λj hj=>cR hb _ (by grind))
       (λj hj=>by grind)
      exact fin pv val (by rw[VS] at h2;simp[execOp,hop,hv,h2]) h1 h3
   ·rename_i cs ho;cases hss:(nqb s 1&&nqb off 0) with
    |false=>grind| true =>
     simp only[hss] at hs;simp only[yK] at hss;have e1:=xC hss.1;have e2:=xC hss.2;subst e1 e2;obtain⟨hi,hK⟩:=hs.h;have hr:=he x;rw[hx] at hr;obtain⟨b,hβ,hv⟩:=jG hr;obtain⟨b',vs,T,hβ',hb,hsz,hcs⟩:=h.obj.at_ n _ (xL ho);rw[hβ] at hβ';cases hβ';obtain⟨pv,val,h1,h2,h3⟩:=aM (w:=w) (S:=S) (β:=β) (b:=b) (o:=0) hK (λj=>vs.getD j undef) (λj hj=>by rw[jQ];grind [cR]) hcs;exact fin pv val (by simp[execOp,hop,hv] at h2 ⊢;simp[h2]) h1 h3
   grind
  grind
 {rename_i bop t x y yt hop;obtain⟨pv,val,h1,h2,h3⟩:=Gt (ox:=x) (oy:=y) (λc e=>by rw[e];rfl) (he x) (he y) hs;exact fin pv val (by simp only[execOp,hop,Sem.run_bind] at h2 ⊢;simp[h2]) h1 h3};{rename_i op t x hop;have hr:=he x;split at hs;{rename_i hx;rw[hx] at hr;exact fin _ (.bool false) (by simp[execOp,hop,Op.unary,i7 hr]) hs (.c rfl (.bool false))};{rename_i hx;rw[hx] at hr;exact fin _ (.bool true) (by simp[execOp,hop,Op.unary,ZS hr]) hs (.c rfl (.bool true))};{rename_i b hx;rw[hx] at hr;exact fin _ (.bool (!(b ()))) (by simp[execOp,hop,Op.unary,sE hr]) hs (m8 _)};{rename_i b hx;rw[hx] at hr;exact fin _ (.bool (b ())) (by simp[execOp,hop,Op.unary,aL hr]) hs (pO _)};{rename_i k n hx;rw[hx] at hr;obtain⟨pv,h1,h2⟩:=l9 (w:=w) (S:=S) (β:=β) hs;exact fin pv _ (by simp[execOp,hop,Op.unary,vS hr,Op.intArith]) h1 h2};grind}
 ·rename_i src dst x hop;cases hno:(ty src).isNo with
  |true=>grind| false =>
   simp only[hno,cond_false] at hs;split at hs;{rename_i k z k' n ht hx;have hr:=he x;rw[hx] at hr;obtain⟨d,hd⟩:=Tm hno;obtain⟨i,d',zv,_,h2,_,_,_,_,_,h8,_⟩:=Xs ht;have h8:=h8 k z rfl;subst h8;refine fin _ _ ?_ hs (sB k (λ_=>nx k (n ())));cases d <;> simp[execOp,hop,convert,run_underlying hd,run_underlying h2,vS hr,Conv.intToInt,nx]};{rename_i els ht hx;have hr:=he x;rw[hx] at hr;obtain⟨⟨e,h1,h2⟩,h3,ns,h4,h5⟩:=hs.h;obtain⟨a,ln,cap,hv,hb⟩:=Gq h4 (rX hr);exact fin _ (.string (Xc ns)) (by simp[execOp,hop,hv,run_convert_bytes_string w src dst e a ln cap h1 h2 h3,hb]) h5 (.c rfl (.str _))};grind
 {rename_i t x i hop;split at hs;{rename_i n fs z ht;split at hs;{rename_i off sz ag hi;have hr:=he x;split at hs;{rename_i m o' hx;rw[hx] at hr;obtain⟨b,hβ,hv⟩:=kF hr;exact fin _ _ (by simp[execOp,hop,hv,cY ht hi]) hs (.ptr hβ)};{rename_i m s j o' hx;rw[hx] at hr;obtain⟨b,hβ,hv⟩:=jG hr;exact fin _ (.pointer (some ⟨b,j ()*s+(o'+off),none⟩)) (by simp[execOp,hop,hv,cY ht hi,ZG]) hs (.aptr hβ)};{rename_i cs o' hx;rw[hx] at hr;obtain⟨b,oo,vals,hS,hv,hf,hc,hrr⟩:=sC hr;exact fin _ (.pointer (some ⟨b,oo+(o'+off),none⟩)) (by simp[execOp,hop,hv,cY ht hi,ZG]) hs (.dptr vals hS hf hc hrr)};grind};grind};grind}
 ·rename_i t x i hop;split at hs
  ·rename_i n fs z ht;split at hs
   ·rename_i off sz ag hi;obtain⟨inf,fields,zs,h1,h2,h3,h4,h5,h6,h7,h8⟩:=Xr ht;rw[h6,uY] at hi;obtain⟨f,hf,hfe⟩:=ZF.1 hi;cases ag with
    |false =>
     simp only at hs;simp only[Prod.mk.injEq] at hfe;obtain⟨q1,q2,q3⟩:=hfe;split at hs
     ·rename_i cs hx;have hr:=he x;rw[hx] at hr;cases hle:(nqb sz 1&&nlt off cs.length) with
      |false=>grind| true =>
       (rw[hle] at hs;simp only[yK] at hle;have hs1:=xC hle.1;have hlt:off<cs.length:=by simp_all);obtain⟨vs,hv,hl,hrr⟩:=qR hr
       (obtain⟨j,hj,hjs⟩:=qM (t:=f.type) (h8 f (zX hf));obtain⟨fields',hu',hU⟩:=Tn ht;rw[h2] at hu';cases hu';obtain⟨d,hd⟩:=iT.1 (hU f (zX hf));have hd':=pK hd w;rw[q3] at hd';have hfa:fields[i]?=some f:=by grind);have hlv:off<vs.size:=by omega
       (refine fin _ (vs.getD off undef) ?_ hs (hrr off oM);have hj1:j.size=1:=by omega);simp[execOp,hop,hv,Instr.field,run_underlying h2,hfa,asAgg,part,hd',uE hj,hj1,q1,hlv]
     grind
    |true =>
     simp only at hs;simp only[Prod.mk.injEq] at hfe;obtain⟨q1,q2,q3⟩:=hfe;split at hs
     ·rename_i cs hx;have hr:=he x;rw[hx] at hr;cases hle:nle (off+sz) cs.length with
      |false=>grind| true =>
       (simp only[hle] at hs;have hle:off+sz<=cs.length:=by simp_all);obtain⟨vs,hv,hl,hrr⟩:=qR hr
       obtain⟨j,hj,hjs⟩:=qM (t:=f.type) (h8 f (zX hf));obtain⟨d,hd⟩:∃ d,Pg.underlying f.type=some d:=by unfold j4 at q3;grind
       (have hd':=pK hd w;rw[q3] at hd';have hfa:fields[i]?=some f:=by grind);refine fin _ (.agg (vs.extract off (off+sz))) ?_ hs (.agg ?_ ?_)
       {simp[execOp,hop,hv,Instr.field,run_underlying h2,hfa,asAgg,part,hd',uE hj,hjs,q1,q2]};{grind}
       ·(intro k hk;have hk':k<sz:=by grind);have:=hrr (off+k) oM
        (have e1:(vs.extract off (off+sz)).getD k undef=vs.getD (off+k) undef:=by simp only[Db];grind);grind
     grind
   grind
  grind
 ·rename_i t x i hop;split at hs;{rename_i n b z els k kv ht hx hi;obtain⟨inf,el,j,zv,h1,h2,h3,h4,h5,h6,h7,h8,h9,h10,h11,h12⟩:=qU ht;have hr:=he x;have hri:=he i;rw[hx] at hr;rw[hi] at hri;obtain⟨hk0,c,hcf,hcl,hck,hK⟩:=hs.h;obtain⟨bb,oo,cap,hv,hlt,hrep⟩:=Pf (β:=β) (rX hr) h10 hcf hcl hck;refine fin _ _ ?_ hK hrep;have:=rG (w:=w) h4 h5 bb oo (els ()).length cap k (kv ()) hk0 oM;rw[h7] at this;simp[execOp,hop,hv,vS hri,this]}
  ·rename_i n b z m s o' len k kv ht hx hi;obtain⟨inf,el,j,zv,h1,h2,h3,h4,h5,h6,h7,h8,h9,h10,h11,h12⟩:=qU ht;have hr:=he x;have hri:=he i;rw[hx] at hr;rw[hi] at hri;cases hss:nqb n s with
   |false=>grind| true =>
    simp only[hss,cond_true] at hs;have:=xC hss;subst this;obtain⟨hrg,hK⟩:=hs;rcases gL hr with⟨_,_,hl0,_⟩|⟨bb,cap,vs,T,hβ,hlc,hb,hsz,hv⟩;{have:=hrg.lo;have:=hrg.hi;omega};{refine fin _ _ ?_ hK (.aptr hβ);have:=rG (w:=w) h4 h5 bb (o' ()*n) (len ()) cap k (kv ()) hrg.lo hrg.hi;rw[h7] at this;simp[execOp,hop,hv,vS hri,this,gI]}
  {rename_i len n ag z m o' k kv ht hx hi;obtain⟨inf,el,zs,h1,h2,h3,h4,h5,h6,h7,h8,h8',h8'',h9⟩:=iW ht;have hr:=he x;have hri:=he i;rw[hx] at hr;rw[hi] at hri;obtain⟨jj,hj1,hj2,hK⟩:=hs.h;obtain⟨b,hβ,hv⟩:=kF hr;obtain⟨j,hj,hjs⟩:=qM (t:=el) oM;refine fin _ _ ?_ hK (.ptr hβ);have:=oP (w:=w) h2 hj b o' k (kv ()) oM oM;rw[hjs,h6,hj1] at this;simp[execOp,hop,hv,vS hri,hj1,this]};grind
 ·rename_i t x i hop;split at hs
  ·rename_i len z cs k kv ht hx hi;obtain⟨inf,el,zs,h1,h2,h3,h4,h5,h6,h7,h8,h8',h8'',h9⟩:=iW ht;have hr:=he x;have hri:=he i;rw[hx] at hr;rw[hi] at hri;cases hll:nqb len cs.length with
   |false=>grind| true =>
    (simp only[hll,cond_true] at hs;have hll:=xC hll;obtain⟨jj,hj1,hj2,hK⟩:=hs.h;obtain⟨vs,hv,hl,hrr⟩:=qR hr;obtain⟨j,hj,hjs⟩:=qM (t:=el) oM;have hs1:j.size=1:=by omega);obtain⟨d,hd⟩:=iT.1 h8''
    (have hlt:jj<vs.size:=by omega);refine fin _ (vs.getD jj undef) ?_ hK (hrr jj oM)
    have hd':=pK hd w;rw[h7] at hd';simp[execOp,hop,hv,vS hri,hj1,Instr.index,asIntOf,run_underlying h2,hj2,uE hj,hs1,part,hd',hlt]
  grind
 ·rename_i x i hop;have hr:=he x;split at hs
  ·rename_i vs hx;rw[hx] at hr;cases hlt:nlt i vs.length with
   |false=>grind| true =>
    (simp only[hlt,cond_true] at hs;have hlt:i<vs.length:=by simp_all);obtain⟨us,hv,hl,hrr⟩:=fQ hr
    (have hlu:i<us.size:=by omega);exact fin _ (us.getD i undef) (by simp[execOp,hop,hv,Instr.extract,hlu]) hs (hrr i hlt)
  grind
 ·rename_i t x lo hi hop;have hr:=he x;split at hs;{rename_i n b z els ht hx;obtain⟨inf,el,j,zv,h1,h2,h3,h4,h5,h6,h7,h8,h9,h10,h11,h12⟩:=qU ht;rw[hx] at hr;split at hs;{rename_i l hh hl hhh;obtain⟨hok,hw,hK⟩:=hs;have hl':=dU he hl;have hh':=dU he hhh;have:=hok.lo;have:=hok.mid;have:=hok.hi;obtain⟨aa,cap,hv,hcap,hrep⟩:=Hy (rX hr) hw.h (l:=(l ()).toNat) (h:=(hh ()).toNat) oM oM;refine fin _ _ ?_ hK (.c rfl hrep);have:=rW (w:=w) (ρ:=a.eval) (a:=aa) h4 h5 hcap hok.lo hok.mid hok.hi (hl'.imp (λh=>⟨h.1,by rw[h.2]⟩) id) (hh'.imp (λh=>⟨h.1,by rw[h.2]⟩) id);rw[h7] at this;simp only[execOp,hop,hv,Sem.run_bind,this,Result.andThen_ok,Sem.run_pure]};grind}
  ·rename_i n b z m s o' len ht hx;obtain⟨inf,el,j,zv,h1,h2,h3,h4,h5,h6,h7,h8,h9,h10,h11,h12⟩:=qU ht;rw[hx] at hr;split at hs
   ·rename_i l hh hl hhh;cases hss:nqb n s with
    |false=>grind| true =>
     simp only[hss,cond_true] at hs;have:=xC hss;subst this;obtain⟨hok,hne,hK⟩:=hs;have hl':=dU he hl;have hh':=dU he hhh;have:=hok.lo;have:=hok.mid;have:=hok.hi;have:=hne.lt;rcases gL hr with⟨_,_,hl0,_⟩|⟨bb,cap,vs,T,hβ,hlc,hb,hsz,hv⟩;{omega};{refine fin _ _ ?_ hK (.osl (cap:=cap-(l ()).toNat) hβ oM hb ?_);{have:=rW (w:=w) (ρ:=a.eval) (a:=some ⟨bb,o' ()*n,none⟩) h4 h5 hlc hok.lo hok.mid hok.hi (hl'.imp (λh=>⟨h.1,by rw[h.2]⟩) id) (hh'.imp (λh=>⟨h.1,by rw[h.2]⟩) id);rw[h7,if_neg oM] at this;simp only[Option.map_some,gJ,<-gI] at this;simp only[execOp,hop,hv,Sem.run_bind,this,Result.andThen_ok,Sem.run_pure]};grind}
   grind
  ·rename_i n b z ht hx;obtain⟨inf,el,j,zv,h1,h2,h3,h4,h5,h6,h7,h8,h9,h10,h11,h12⟩:=qU ht;rw[hx] at hr;have hv:=fR hr;split at hs
   ·(rename_i l hh hl hhh;obtain⟨hok,hK⟩:=hs;have hl':=dU he hl;have hh':=dU he hhh;have:=hok.lo;have:=hok.mid;have:=hok.hi;refine fin _ _ ?_ hK .nil;have:=rW (w:=w) (ρ:=a.eval) (a:=none) h4 h5 (yD 0) hok.lo hok.mid hok.hi (hl'.imp (λh=>⟨h.1,by rw[h.2]⟩) id) (hh'.imp (λh=>⟨h.1,by omega⟩) id);have e1:(l ()).toNat=0:=by omega);have e2:(hh ()).toNat=0:=by omega
    rw[e1,e2,if_pos rfl] at this;simp only[execOp,hop,hv,Sem.run_bind,this,Result.andThen_ok,Sem.run_pure]
   grind
  grind
 {rename_i x hop;have hr:=he x;split at hs;{rename_i n o' hx;rw[hx] at hr;obtain⟨b,hβ,hv⟩:=kF hr;exact fin _ _ (by simp[execOp,hop,hv]) hs (.ptr hβ)};{rename_i n s i o' hx;rw[hx] at hr;obtain⟨b,hβ,hv⟩:=jG hr;exact fin _ _ (by simp[execOp,hop,hv]) hs (.aptr hβ)};{rename_i c o' hx;rw[hx] at hr;obtain⟨b,oo,vals,hS,hv,hf,hc,hrr⟩:=sC hr;exact fin _ _ (by simp[execOp,hop,hv]) hs (.dptr vals hS hf hc hrr)};grind}
 ·(rename_i f first caps hop);split at hs
  ·(rename_i hfe;have hf0:first=#[]:=by grind);have hc:=Y6 he caps.toList
   refine fin _ (.func (.func f) #[] (caps.toList.map a.eval).toArray) ?_ hs (.fn hc.1 hc.2);have:caps.map a.eval=(caps.toList.map a.eval).toArray:=Array.ext' (by simp);simp[execOp,hop,Instr.makeFunc,hf0,<-this]
  grind
 ·rename_i c hop;split at hs
  ·rename_i hcl;split at hs
   ·(rename_i x t hx ht;have hr:=he x;have ha:c.args=#[x]:=by grind);have hta:c.argTypes=#[t]:=by grind
    unfold MZ at hs;split at hs
    ·rename_i n b z hty;obtain⟨inf,el,j,zv,h1,h2,h3,h4,_⟩:=qU hty;split at hs
     ·rename_i els hxe;rw[hxe] at hr;have:=rX hr;obtain⟨aa,cap,hv,_⟩:∃ aa cap,a.eval x=.slice aa (els ()).length cap/\True:=by
       rcases fS this with⟨e0,aa,cap,hv⟩|⟨bb,oo,cap,s,vals,_,_,_,_,_,_,_,hv⟩
       all_goals grind
      exact fin _ (.int .i64 ((els ()).length:Nat)) (by simp[execOp,hop,resolve,hcl,invoke,Go.builtin,ha,hta,hv,Builtin.len_,run_underlying h4,goInt]) hs (sB .i64 (λ_=>(((els ()).length:Nat):Int)))
     ·rename_i m s o' l hxe;rw[hxe] at hr;obtain⟨aa,cap,hv⟩:∃ aa cap,a.eval x=.slice aa (l ()) cap:=by
       rcases gL hr with⟨_,_,hl0,aa,hv⟩|⟨bb,cap,vs,T,hβ,hlc,hb,hsz,hv⟩
       all_goals grind
      exact fin _ (.int .i64 (l ():Nat)) (by simp[execOp,hop,resolve,hcl,invoke,Go.builtin,ha,hta,hv,Builtin.len_,run_underlying h4,goInt]) hs (sB .i64 (λ_=>((l ():Nat):Int)))
     {rename_i hxe;rw[hxe] at hr;have hv:=fR hr;exact fin _ (.int .i64 0) (by simp[execOp,hop,resolve,hcl,invoke,Go.builtin,ha,hta,hv,Builtin.len_,run_underlying h4,goInt]) hs (sB .i64 (λ_=>0))};{rename_i hxe;rw[hxe] at hr;obtain⟨aa,hv⟩:=oU hr;exact fin _ (.int .i64 0) (by simp[execOp,hop,resolve,hcl,invoke,Go.builtin,ha,hta,hv,Builtin.len_,run_underlying h4,goInt]) hs (sB .i64 (λ_=>0))};grind
    grind
   grind
  ·rename_i hcl;split at hs
   ·(rename_i x y hx;have ha:c.args=#[x,y]:=by grind);split at hs
    {rename_i k b hxe hye;have hr:=he x;have hr2:=he y;rw[hxe] at hr;rw[hye] at hr2;refine fin _ (.int .i64 (imax (k ()) (b ()))) ?_ hs (sB .i64 (λ_=>imax (k ()) (b ())));simp[execOp,hop,resolve,hcl,invoke,Go.builtin,ha,vS hr,vS hr2,Builtin.max_,Builtin.max2,imax]};grind
   grind
  ·rename_i hcl;split at hs
   ·(rename_i x y hx;have ha:c.args=#[x,y]:=by grind);split at hs
    {rename_i k b hxe hye;have hr:=he x;have hr2:=he y;rw[hxe] at hr;rw[hye] at hr2;refine fin _ (.int .i64 (imin (k ()) (b ()))) ?_ hs (sB .i64 (λ_=>imin (k ()) (b ())));simp[execOp,hop,resolve,hcl,invoke,Go.builtin,ha,vS hr,vS hr2,Builtin.min_,Builtin.min2,imin]};grind
   grind
  {rename_i f hcl;split at hs;{rename_i g caps hf;exact nT hop hcl h hf (hs.h.resolve_right λq=>by cases q.1) hk};grind};grind
 grind
end
end Go.Proofs.YtaeaffgjdcigoaaGreat
