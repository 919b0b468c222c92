/- A part of the proof: PmJ. -/
import Derived.Test.YtboocdbmnfjomaaGreatV06
set_option linter.all false
namespace Go.Proofs.YtboocdbmnfjomaaGreat
open Go
section
variable {w0:World} {S0:Nat->Nat->Prop} {K0:Nat->Prop} {N:Cx} {τ:Nat->PV} {objs:List (Nat×Obj')} {a:Act} {w:World} {S S':Nat->Nat->Prop} {β:Bm}
theorem Evo.refl:Evo S w w:=⟨λ_ _ _=>rfl,λb vs T h=>⟨vs,h,rfl⟩⟩
theorem Rep.mono {v pv}(h:Rep w S β v pv)(hS:∀ b i,S b i->S' b i):Rep w S' β v pv:=h.evo Evo.refl hS
theorem uJ (f:PV->PV)(hf:f .any=.any):∀ (l:List (Nat×PV)) (t:Nat),zD (xW f l) t=f (zD l t)
 |[],t=>by simp[xW,zD,hf]| (u,v)::r,t=>by
  simp only[xW,zD];cases nqb u t with
  |true=>rfl| false=>exact uJ f hf r t
theorem zN (f:PV->PV):∀ (l:List PV),(wW f l).length=l.length
 |[]=>rfl| v::r=>by simp[wW,zN f r]
theorem yP (f:PV->PV)(hf:f .any=.any):∀ (l:List PV) (j:Nat),(wW f l).getD j .any=f (l.getD j .any)
 |[],j=>by simp[wW,hf]| v::r,0=>by simp[wW]| v::r,j+1=>by simpa[wW] using yP f hf r j
theorem fY {f:PV->Prop}(hf:f .any):∀ {cs:List PV},Vl f cs->∀ j,f (cs.getD j .any)
 |[],_,j=>by grind| c::cs,h,0=>by simpa using h.1| c::cs,h,j+1=>by simpa using fY hf h.2 j
def szO:Obj'->Nat
 |.box cs=>cs.length| .arr s els=>(els ()).length*s| .log s els=>(els ()).length*s| .lent s els=>(els ()).length*s| .mat _ _ _=>0
theorem eV {n s:Nat}{els:Unit->List (List D)}{o:Obj'}(hr:W8 o=some (s,els))(h:ObjAt w S β n o):RowAt w S β n s els:=by
 cases o with
 |box cs=>cases hr
 |arr s' e=>cases hr;exact h
 |log s' e=>cases hr;exact h
 |lent s' e=>cases hr;exact h.1
 |mat s' r q=>cases hr
theorem JE {s:Nat}{els:Unit->List (List D)}{o:Obj'}(hr:W8 o=some (s,els)):szO o=(els ()).length*s:=by
 cases o with
 |box cs=>cases hr
 |arr s' e=>cases hr;rfl
 |log s' e=>cases hr;rfl
 |lent s' e=>cases hr;rfl
 |mat s' r q=>cases hr
structure FrzAt (w:World) (S S':Nat->Nat->Prop) (β:Bm) (n:Nat) (o:Obj'):Prop where
 sub:∀ b i,S b i->S' b i
 new:∀ b,β n=some b->∀ i,i<szO o->S' b i
 at_:ObjAt w S β n o
 cl:YN o=true
theorem Bc {n:Nat}{o:Obj'}(F:FrzAt w S S' β n o){v pv}(h:Rep w S β v pv)(hf:fo0 n o pv):Rep w S' β v (fz0 n o pv):=by
 have hm:=h.mono F.sub;cases pv with
 |agg cs=>exact wI _| tup cs=>exact wI _| fn f cs=>exact wI _| ptr m off =>
  simp only[fz0];cases hb:nqb m n with
  |false=>exact hm| true =>
   have:=y5 hb;subst this;simp only[cond_true];cases o with
   |arr s els=>exact wI _| log s els=>exact wI _| lent s els=>exact wI _| mat s r q=>exact wI _| box cs =>
    obtain⟨b,hβ,rfl⟩:=jH h;obtain⟨b',vs,T,hβ',hw,hsz,hr⟩:=F.at_;rw[hβ] at hβ';cases hβ';have hcl:=F.cl;simp only[YN] at hcl;have hfl:yX qT (wW Wy cs)=true:=by
     have:∀ (l:List PV),yX iD l=true->yX qT (wW Wy l)=true:=by
      intro l;induction l with
      |nil=>intro _;rfl
      |cons c l ih =>
       intro h;simp only[yX,xA,wW] at h ⊢;exact⟨by cases c <;> simp_all [iD,Wy,qT],ih h.2⟩
     grind
    show Rep w S' β _ (.dptr (wW Wy cs) off)
    suffices key:Rep w S' β (.pointer (some ⟨b,0+off,none⟩)) (.dptr (wW Wy cs) off) by grind
    refine Rep.dptr (o:=0) (λj=>vs.getD j undef) (λj hj=>F.new b hβ _ (by grind [zN,szO])) hfl (λj hj=>?_) (λj hj=>?_);{rw[zN] at hj;rw[wQ];grind [gQ]}
    ·(rw[zN] at hj;rw[yP _ rfl];have h1:=mI ((hr j hj).mono F.sub) (xS rfl hcl j);have h2:∀ x:PV,toD (Wy x)=toD x:=by intro x;cases x <;> rfl);grind
 |aptr m s i off =>
  simp only[fz0];cases hb:nqb m n with
  |false=>exact hm| true=>exact wI _
 |osl m s i len =>
  simp only[fz0];cases hb:nqb m n with
  |false=>exact hm| true =>
   have:=y5 hb;subst this;simp only[cond_true];cases hro:W8 o with
   |none=>exact wI _| some p =>
    obtain⟨s',els⟩:=p;simp only[fo0,hb,hro] at hf;have hf:=hf.h;show Rep w S' β v ((match nqb s s' with|true=>PV.sl (λ_=>((els ()).drop (i ())).take (len ()))|false=>.any));cases hss:nqb s s' with
    |false=>exact wI _| true =>
     have:=y5 hss;subst this;simp only[cond_true];refine .c rfl ?_;simp only[toD];rcases uT h with⟨hn,ho,hl,aa,rfl⟩|⟨b,cap,vs,T,hβ,hlc,hw,hsz,rfl⟩;{rw[hl];simpa using RepD.sl0 _ _}
     ·rcases eV hro F.at_ with⟨hn,_⟩|⟨b',vs',T',hβ',hw',hsz',hwid,hr⟩;{grind}
      ·(rw[hβ] at hβ';cases hβ';rw[hw] at hw';cases hw';have hlen:(((els ()).drop (i ())).take (len ())).length=len ():=by grind);by_cases h0:len ()=0
       {rw[h0];simpa using RepD.sl0 _ _}
       ·(have hg:∀ k,k<len ()->(((els ()).drop (i ())).take (len ())).getD k []=(els ()).getD (i ()+k) []:=by grind);have key:=RepD.sl (w:=w) (S:=S') (b:=b) (o:=i ()*s) (cap:=cap) (s:=s) (els:=((els ()).drop (i ())).take (len ())) (λk j=>vs.getD ((i ()+k)*s+j) undef)
         (by grind) oM
         (λk j hk hj=>F.new b hβ _ (by
          rw[hlen] at hk;rw[JE hro];have:(i ()+k)*s+s<=(els ()).length*s:=by
           calc (i ()+k)*s+s=(i ()+k+1)*s:=by grind
            _<=_:=uR _ oM
          grind))
         (λe he=>hwid e (Jw (nC he)))
         (λk j hk hj=>by
          rw[hlen] at hk;have hlt:(i ()+k)*s+j<vs.size:=by
           have:(i ()+k)*s+s<=(els ()).length*s:=by
            calc (i ()+k)*s+s=(i ()+k+1)*s:=by grind
             _<=_:=uR _ oM
           omega
          rw[<-gQ hw _ hlt,jK])
         (λk j hk hj=>by grind)
         (λk j hk hj=>by rw[hlen] at hk;rw[hg k hk];exact ((hr (i ()+k) j oM hj).1).evo (λ_ _ _=>rfl) F.sub)
        grind
 |int k x=>exact hm| tt=>exact hm| ff=>exact hm| bool b=>exact hm| nbool b=>exact hm| str x=>exact hm| nil=>exact hm| sl e=>exact hm| dptr cs o=>exact hm| nilf=>exact hm| nilp=>exact hm| emp=>exact hm| any=>exact hm
theorem Tn {n:Nat}{o:Obj'}(F:FrzAt w S S' β n o){v pv}(h:Rep w S β v pv)(hf:fo1 n o pv):Rep w S' β v (fz1 n o pv):=by
 cases pv with
 |agg cs =>
  obtain⟨vs,rfl,h1,h2⟩:=qZ h;exact .agg (by grind [zN]) λj hj=>by rw[zN] at hj;rw[yP _ rfl];exact Bc F (h2 j hj) (fY trivial hf j)
 |tup cs =>
  obtain⟨vs,rfl,h1,h2⟩:=dF h;exact .tup (by grind [zN]) λj hj=>by rw[zN] at hj;rw[yP _ rfl];exact Bc F (h2 j hj) (fY trivial hf j)
 |fn f cs =>
  obtain⟨vs,rfl,h1,h2⟩:=dH h;exact .fn (by grind [zN]) λj hj=>by rw[zN] at hj;rw[yP _ rfl];exact Bc F (h2 j hj) (fY trivial hf j)
 |_=>exact Bc F h hf
theorem Bb {n:Nat}{o:Obj'}(F:FrzAt w S S' β n o){v pv}(h:Rep w S β v pv)(hf:fo n o pv):Rep w S' β v (frz n o pv):=by
 cases pv with
 |agg cs =>
  obtain⟨vs,rfl,h1,h2⟩:=qZ h;exact .agg (by grind [zN]) λj hj=>by rw[zN] at hj;rw[yP _ rfl];exact Tn F (h2 j hj) (fY trivial hf j)
 |tup cs =>
  obtain⟨vs,rfl,h1,h2⟩:=dF h;exact .tup (by grind [zN]) λj hj=>by rw[zN] at hj;rw[yP _ rfl];exact Tn F (h2 j hj) (fY trivial hf j)
 |fn f cs =>
  obtain⟨vs,rfl,h1,h2⟩:=dH h;exact .fn (by grind [zN]) λj hj=>by rw[zN] at hj;rw[yP _ rfl];exact Tn F (h2 j hj) (fY trivial hf j)
 |_=>exact Bc F h hf
theorem wR (f:PV->PV):∀ {l:List (Nat×Obj')} {n:Nat} {o:Obj'},(n,o)∈y6 f l->∃ o',(n,o')∈l/\o=xY f o'
 |(m,o1)::r,n,o,h=>by
  (have e:y6 f ((m,o1)::r)=(m,xY f o1)::y6 f r:=by cases o1 <;> rfl);rw[e,yS] at h
  rcases h with h|h;{grind};{obtain⟨o',h1,h2⟩:=wR f h;grind}
theorem gW (f:PV->PV):∀ (l:List (Nat×Obj')),(y6 f l).map Prod.fst=l.map Prod.fst
 |[]=>rfl| (m,o1)::r=>by
  (have e:y6 f ((m,o1)::r)=(m,xY f o1)::y6 f r:=by cases o1 <;> rfl);rw[e,kK,kK,gW f r]
theorem oN (f:PV->PV):∀ {hs:List (PV×(Unit->Nat))} {v:PV} {k:Unit->Nat},(v,k)∈gG f hs->∃ v',(v',k)∈hs/\v=f v'
 |(u,j)::r,v,k,h=>by simp only[gG,yS] at h;rcases h with h|h;{grind};{obtain⟨v',h1,h2⟩:=oN f h;grind}
theorem nR (f:PV->PV):∀ {hs:List (PV×(Unit->Nat))} {v:PV} {k:Unit->Nat},(v,k)∈hs->(f v,k)∈gG f hs
 |(u,j)::r,v,k,h=>by simp only[gG,yS] at h ⊢;rcases h with h|h;{grind};{exact .inr (nR f h)}
theorem jP (f:PV->PV)(o:Obj')(i:Nat):vG (xY f o) i↔vG o i:=by
 cases o with
 |mat s rows hs =>
  show (_/\_)↔(_/\_);grind [nR,oN]
 |_=>exact Iff.rfl
theorem v4 {f:PV->PV}{n:Nat}{o:Obj'}{b:Nat}(h:Own β n (xY f o) b):Own β n o b:=by rcases h with h|⟨i,h1,h2⟩;{exact .inl h};{exact .inr ⟨i,(jP f o i).1 h1,h2⟩}
theorem Cw {f:PV->PV}{n:Nat}{o:Obj'}{b:Nat}(h:Own β n o b):Own β n (xY f o) b:=by rcases h with h|⟨i,h1,h2⟩;{exact .inl h};{exact .inr ⟨i,(jP f o i).2 h1,h2⟩}
theorem r5 {f:PV->PV}{o:Obj'}{i:Nat}(h:j3 o i):j3 (xY f o) i:=by cases o <;> exact h
theorem wT:∀ {l:List (Nat×Obj')} {n m:Nat} {o:Obj'},(m,o)∈xK l n->(m,o)∈l/\m≠n
 |(u,x)::r,n,m,o,h=>by
  simp only[xK] at h;cases hu:nqb u n with
  |true =>
   simp only[hu,cond_true] at h;obtain⟨h1,h2⟩:=wT h;grind
  |false =>
   simp only[hu,cond_false,yS] at h;rcases h with h|h;{cases h;exact⟨vH,λe=>by simp_all⟩};{obtain⟨h1,h2⟩:=wT h;grind}
theorem mZ:∀ (l:List (Nat×Obj')) (n:Nat),((xK l n).map Prod.fst).Sublist (l.map Prod.fst)
 |[],n=>by simp[xK]| (u,x)::r,n=>by
  simp only[xK];cases nqb u n with
  |true=>exact (mZ r n).trans (List.sublist_cons_self _ _)| false=>exact (mZ r n).cons_cons _
theorem KU {n:Nat}{o:Obj'}:∀ {l:List (Nat×PV)},foT n o l->∀ t,fo n o (zD l t)
 |[],_,t=>trivial| (u,v)::r,h,t=>by
  simp only[zD];cases nqb u t with
  |true=>exact h.1| false=>exact KU h.2 t
theorem KV {n u:Nat}{o o1:Obj'}{r:List (Nat×Obj')}(h:foO n o ((u,o1)::r)):foO n o r:=by cases o1 <;> first|exact h|exact h.2
theorem Gt {n:Nat}{o:Obj'}:∀ {l:List (Nat×Obj')},foO n o l->∀ {m cs},(m,Obj'.box cs)∈l->Vl (fo n o) cs
 |(u,o1)::r,h,m,cs,hm=>by rcases yS.1 hm with hm|hm;{cases hm;exact h.1};{exact Gt (KV h) hm}
theorem KW {n:Nat}{o:Obj'}:∀ {l:List (Nat×Obj')},foO n o l->∀ {m s rows hs},(m,Obj'.mat s rows hs)∈l->foH n o hs
 |(u,o1)::r,h,m,s,rows,hs,hm=>by rcases yS.1 hm with hm|hm;{cases hm;exact h.1};{exact KW (KV h) hm}
theorem Gu {n:Nat}{o:Obj'}:∀ {hs:List (PV×(Unit->Nat))},foH n o hs->∀ {v k},(v,k)∈hs->fo n o v
 |(u,j)::r,h,v,k,hm=>by rcases yS.1 hm with hm|hm;{cases hm;exact h.1};{exact Gu h.2 hm}
theorem RowIn.mono {ob:Option Nat}{v:Value}{s:Nat}{els:List (List D)}(h:RowIn w S ob v s els)(hS:∀ b i,S b i->S' b i):RowIn w S' ob v s els:=by rcases h with h|⟨b,cap,us,T,h1,h2,h3,h4,h5,h6,h7⟩;{exact .inl h};{exact .inr ⟨b,cap,us,T,h1,h2,h3,h4,h5,h6,λi j hi hj=>⟨(h7 i j hi hj).1.evo (λ_ _ _=>rfl) hS,(h7 i j hi hj).2⟩⟩}
theorem MatAt.map {n s:Nat}{rows:Unit->List (List (List D))}{hs:List (PV×(Unit->Nat))}{f:PV->PV}(h:MatAt w S β n s rows hs)(hS:∀ b i,S b i->S' b i)(hf:∀ v x k,(x,k)∈hs->Rep w S β v x->Rep w S' β v (f x)):MatAt w S' β n s rows (gG f hs):=by have hr:=jP f (.mat s rows hs);obtain⟨hp,h5,h6⟩:=h;refine⟨?_,λi j b hi hj=>h5 i j b ((hr i).1 hi) ((hr j).1 hj),λi b hi=>h6 i b ((hr i).1 hi)⟩;rcases hp with⟨e1,e2,e3⟩|⟨b,vs,T,h1,h2,h3,h4,h7⟩;{subst e3;exact .inl ⟨e1,e2,rfl⟩};{refine .inr ⟨b,vs,T,h1,h2,h3,λv k hk=>?_,λi hi=>(h7 i ((hr i).1 hi)).mono hS⟩;obtain⟨v',g1,rfl⟩:=oN f hk;grind}
theorem RowAt.mono {n s:Nat}{els:Unit->List (List D)}(h:RowAt w S β n s els)(hS:∀ b i,S b i->S' b i):RowAt w S' β n s els:=by rcases h with e|⟨b,vs,T,e1,e2,e3,e4,e5⟩;{exact .inl e};{exact .inr ⟨b,vs,T,e1,e2,e3,e4,λi j hi hj=>⟨(e5 i j hi hj).1.evo (λ_ _ _=>rfl) hS,(e5 i j hi hj).2⟩⟩}
theorem ObjAt.mono {n:Nat}{o:Obj'}(h:ObjAt w S β n o)(hS:∀ b i,S b i->S' b i):ObjAt w S' β n o:=by
 cases o with
 |box cs=>obtain⟨b,vs,T,e1,e2,e3,e4⟩:=h;exact⟨b,vs,T,e1,e2,e3,λj hj=>(e4 j hj).mono hS⟩
 |arr s els=>exact RowAt.mono h hS| log s els=>exact RowAt.mono h hS| lent s els=>exact⟨RowAt.mono h.1 hS,h.2.mono hS⟩| mat s rows hs =>
  obtain⟨hp,h5,h6⟩:=h;refine⟨?_,h5,h6⟩;rcases hp with hp|⟨b,vs,T,h1,h2,h3,h4,h7⟩;{grind};{exact .inr ⟨b,vs,T,h1,h2,h3,λv k hk=>⟨(h4 v k hk).1,(h4 v k hk).2.mono hS⟩,λi hi=>(h7 i hi).mono hS⟩}
theorem Sim.frz {ps:PS}(h:Sim w0 S0 K0 N (zD ps.tmps) ps.objs a w S β){n:Nat}{o:Obj'}(ho:yK ps.objs n=some o)(hc:YN o=true)(hT:foT n o ps.tmps)(hO:foO n o ps.objs):∃ S' β',Sim w0 S0 K0 N (zD (KT n o ps).tmps) (KT n o ps).objs a w S' β':=by
 have hmem:=xH ho;have F:FrzAt w S (λb i=>S b i\/β n=some b) β n o:=⟨λb i=>.inl,λb h i _=>.inr h,h.obj.at_ n o hmem,hc⟩;refine⟨λb i=>S b i\/β n=some b,β,⟨h.dfr,h.sz,?_,?_,?_,?_,?_⟩⟩
 ·refine⟨h.ld.size,h.ld.os,h.ld.tape,h.ld.output,h.ld.same,h.ld.shape,?_,?_,?_⟩;{rintro b i (hS|hβ);{exact h.ld.bnd b i hS};{exact (h.obj.un n o b hmem (.inl hβ)).2}};{exact λb i hb hS=>.inl (h.ld.sub b i hb hS)}
  ·rintro b i hb hk (hS|hβ);{exact h.ld.old b i hb hk hS}
   ·rcases h.own n o b hmem (.inl hβ) with h'|h'
    all_goals grind
 {intro t;simp only[KT];rw[uJ _ rfl];exact Bb F (h.tmp t) (KU hT t)}
 ·refine⟨?_,?_,?_,?_⟩;{simp only[KT,gW];exact (mZ _ _).nodup h.obj.nd}
  ·intro m o' hm;obtain⟨o'',h1,h2⟩:=wR _ hm;obtain⟨h3,h4⟩:=wT h1;have hat:=h.obj.at_ m o'' h3;cases o'' with
   |box cs =>
    subst h2;obtain⟨b,vs,T,e1,e2,e3,e4⟩:=hat;exact⟨b,vs,T,e1,e2,by grind [zN],λj hj=>by rw[zN] at hj;rw[yP _ rfl];exact Bb F (e4 j hj) (fY trivial (Gt hO h3) j)⟩
   |arr s els=>subst h2;exact RowAt.mono hat F.sub| log s els=>subst h2;exact RowAt.mono hat F.sub| lent s els=>subst h2;exact⟨RowAt.mono hat.1 F.sub,hat.2.mono F.sub⟩| mat s rows hs=>subst h2;exact MatAt.map hat F.sub λv x k hk hv=>Bb F hv (Gu (KW hO h3) hk)
  {intro m o' b hm hβ;obtain⟨o'',h1,rfl⟩:=wR _ hm;obtain⟨h3,h4⟩:=wT h1;obtain⟨h5,h6⟩:=h.obj.un m o'' b h3 (v4 hβ);refine⟨?_,h6⟩;rintro i (hS|hn);{grind [r5]};{exact absurd (h.obj.inj _ _ _ _ b h3 hmem (v4 hβ) (.inl hn)) h4}};{intro m o' m' o'' b hm hm' hβ hβ';obtain⟨x,h1,rfl⟩:=wR _ hm;obtain⟨y,h2,rfl⟩:=wR _ hm';exact h.obj.inj _ _ _ _ b (wT h1).1 (wT h2).1 (v4 hβ) (v4 hβ')}
 {intro m o' b hm hβ;obtain⟨x,h1,rfl⟩:=wR _ hm;exact h.own m x b (wT h1).1 (v4 hβ)};{intro m o' hm hb;obtain⟨x,h1,_⟩:=wR _ hm;exact h.keep m x (wT h1).1 hb}
theorem sY {f:PV->PV->Prop}(hf:∀ a b,f a b->Le a b):∀ {a b:List PV},jC f a b->LeL a b
 |[],[],_=>by simp[LeL]| x::a,y::b,h=>by simp only[LeL];exact⟨hf _ _ h.1,sY hf h.2⟩| [],y::b,h=>h.elim| x::a,[],h=>h.elim
theorem U1 {a b:PV}(h:KA a b):Le a b:=by unfold KA at h;split at h;{simp only[Le];exact sY (λ_ _ h=>h.h) h};{simp only[Le];exact sY (λ_ _ h=>h.h) h};{exact h.h}
theorem cO {a b:PV}(h:les a b):Le a b:=by unfold les at h;split at h;{grind [Le,sY,U1]};{grind [Le,sY,U1]};{grind [Le,y5,sY,U1]};{exact h.h}
theorem p6 {a b:List PV}(h:jC les a b):LeL a b:=sY (λ_ _ h=>cO h) h
theorem KB {src:List (Nat×PV)}:∀ {l:List (Nat×PV)},leT src l->∀ t,Le (zD src t) (zD l t)
 |[],_,t=>by simp[zD,Le]| (u,v)::r,h,t=>by
  simp only[zD];cases hu:nqb u t with
  |true=>have:=y5 hu;subst this;exact cO h.1| false=>exact KB h.2 t
theorem p7 {src:List (Nat×Obj')}:∀ {l:List (Nat×Obj')},leO src l->∀ {n o},(n,o)∈l->∃ o',(n,o')∈src/\W5 o' o
 |(u,x)::r,h,n,o,hm=>by simp only[yS] at hm;rcases hm with hm|hm;{cases hm;have h1:=h.1;grind [xH]};{exact p7 h.2 hm}
theorem KO {n:Nat}:∀ {l:List (Nat×Obj')},KP n l=false->n∉l.map Prod.fst
 |[],_=>by simp| (m,o)::r,h=>by simp only[KP,Bool.or_eq_false_iff] at h;simp only[kK,yS,not_or];exact⟨λe=>by simp_all,KO h.2⟩
theorem fO:∀ {l:List (Nat×Obj')},ndO l=true->(l.map Prod.fst).Nodup
 |[],_=>List.nodup_nil| (n,o)::r,h=>by simp only[ndO,xA,WY] at h;simp only[kK,WX];exact⟨KO h.1,fO h.2⟩
theorem U7:∀ {hs hs':List (PV×(Unit->Nat))},hLe hs hs'->∀ {v k},(v,k)∈hs'->∃ v' k',(v',k')∈hs/\Le v' v/\k' ()=k ()
 |[],[],_,v,k,hm=>by cases hm
 |(x,j)::r,(y,l)::q,h,v,k,hm=>by rcases yS.1 hm with hm|hm;{cases hm;refine⟨x,j,vH,h.1.1.h,?_⟩;have:=h.1.2.h;simp only[Le,true_and] at this;omega};{obtain⟨v',k',h1,h2⟩:=U7 h.2 hm;grind}
 |[],y::q,h,_,_,_=>h.elim| x::r,[],h,_,_,hm=>h.elim
theorem KR:∀ {hs hs':List (PV×(Unit->Nat))},hLe hs hs'->∀ {v k},(v,k)∈hs->∃ v' k',(v',k')∈hs'/\k ()=k' ()
 |[],[],_,v,k,hm=>by cases hm
 |(x,j)::r,(y,l)::q,h,v,k,hm=>by rcases yS.1 hm with hm|hm;{cases hm;refine⟨y,l,vH,?_⟩;have:=h.1.2.h;simp only[Le,true_and] at this;omega};{obtain⟨v',k',h1,h2⟩:=KR h.2 hm;grind}
 |[],y::q,h,_,_,hm=>h.elim| x::r,[],h,_,_,hm=>h.elim
theorem V6 {s:Nat}{rows:Unit->List (List (List D))}{hs hs':List (PV×(Unit->Nat))}(h:hLe hs hs')(i:Nat):vG (.mat s rows hs) i↔vG (.mat s rows hs') i:=by show (_/\_)↔(_/\_);grind [U7,KR]
inductive ObjLe':Obj'->Obj'->Prop
 |box {a b} (h:LeL a b):ObjLe' (.box a) (.box b)
 |refl (o):ObjLe' o o
 |ll (s els):ObjLe' (.lent s els) (.log s els)
 |mat {s rows hs hs'} (h:hLe hs hs'):ObjLe' (.mat s rows hs) (.mat s rows hs')
theorem XG {o' o:Obj'}(h:W5 o' o):ObjLe' o' o:=by
 cases o' <;> cases o <;> first
  |exact h.elim
  |exact .box (p6 h)
  |(obtain⟨hs,he⟩:=h;have:=y5 hs;subst this;cases fU he.h;first|exact .refl _|exact .ll _ _;done)
  |(obtain⟨hs,he,hh⟩:=h;have:=y5 hs;subst this;cases fU he.h;exact .mat hh)
theorem ObjAt.le {n:Nat}{o o':Obj'}(h:ObjAt w S β n o')(hl:W5 o' o):ObjAt w S β n o:=by
 cases XG hl with
 |refl=>exact h| ll s els=>exact h.1| box hq =>
  obtain⟨b,vs,T,e1,e2,e3,e4⟩:=h;exact⟨b,vs,T,e1,e2,e3.trans (uS hq),λj hj=>(e4 j (by grind [uS])).le _ (pL hq j hj)⟩
 | @mat s rows hs hs' hh =>
  obtain⟨hp,h5,h6⟩:=h;have hr:=λi=>V6 (s:=s) (rows:=rows) hh i;refine⟨?_,λi j b hi hj=>h5 i j b ((hr i).2 hi) ((hr j).2 hj),λi b hi=>h6 i b ((hr i).2 hi)⟩;rcases hp with⟨e1,e2,e3⟩|⟨b,vs,T,h1,h2,h3,h4,h7⟩
  ·subst e3;refine .inl ⟨e1,e2,?_⟩;cases hs' with
   |nil=>rfl| cons x r=>exact hh.elim
  {exact .inr ⟨b,vs,T,h1,h2,h3,λv k hk=>by obtain⟨v',k',g1,g2,g3⟩:=U7 hh hk;rw[<-g3];exact⟨(h4 v' k' g1).1,(h4 v' k' g1).2.le _ g2⟩,λi hi=>h7 i ((hr i).2 hi)⟩}
theorem Cq {o o':Obj'}(hl:W5 o' o){i:Nat}(h:j3 o' i):j3 o i:=by
 cases XG hl with
 |refl=>exact h| ll s els=>exact h| box hl=>exact h.elim| mat hh=>exact h.elim
theorem XC {n:Nat}{o o':Obj'}{b:Nat}(hl:W5 o' o)(h:Own β n o b):Own β n o' b:=by
 cases XG hl with
 |refl=>exact h| ll s els=>exact .inl (xF (by intro _ hi;exact hi) h)| box hl=>exact .inl (xF (by intro _ hi;exact hi) h)| mat hh =>
  rcases h with h|⟨i,h1,h2⟩;{exact .inl h};{exact .inr ⟨i,(V6 hh i).2 h1,h2⟩}
theorem Sim.le {ps ps':PS}(h:Sim w0 S0 K0 N (zD ps.tmps) ps.objs a w S β)(ht:leT ps.tmps ps'.tmps)(ho:leO ps.objs ps'.objs)(hn:ndO ps'.objs=true):Sim w0 S0 K0 N (zD ps'.tmps) ps'.objs a w S β where
 dfr:=h.dfr
 sz:=h.sz
 ld:=h.ld
 tmp t:=(h.tmp t).le _ (KB ht t)
 obj:=⟨fO hn,λn o hm=>by obtain⟨o',h1,h2⟩:=p7 ho hm;exact (h.obj.at_ n o' h1).le h2,
  λn o b hm hβ=>by obtain⟨o',h1,h2⟩:=p7 ho hm;exact⟨λi hS=>Cq h2 ((h.obj.un n o' b h1 (XC h2 hβ)).1 i hS),(h.obj.un n o' b h1 (XC h2 hβ)).2⟩,
  λn o m o' b hm hm' hβ hβ'=>by obtain⟨x,h1,g1⟩:=p7 ho hm;obtain⟨y,h2,g2⟩:=p7 ho hm';exact h.obj.inj _ _ _ _ b h1 h2 (XC g1 hβ) (XC g2 hβ')⟩
 own n o b hm hβ:=by obtain⟨o',h1,g1⟩:=p7 ho hm;exact h.own n o' b h1 (XC g1 hβ)
 keep n o hm hb:=by obtain⟨o',h1,_⟩:=p7 ho hm;exact h.keep n o' h1 hb
theorem vP {n:Nat}:∀ {l:List (Nat×PV)},r4 n l=true->∀ t,xN n (zD l t)=true
 |[],_,t=>rfl| (u,v)::r,h,t=>by
  simp only[r4,xA] at h;simp only[zD];cases nqb u t with
  |true=>exact h.1| false=>exact vP h.2 t
def bE (n:Nat):Obj'->Prop
 |.box cs=>wL n cs=true| .arr _ _=>True| .log _ _=>True| .lent _ _=>True| .mat _ _ hs=>sH n hs=true
theorem lQ {n u:Nat}{o:Obj'}{r:List (Nat×Obj')}(h:xV n ((u,o)::r)=true):u≠n/\bE n o/\xV n r=true:=by
 cases o with
 |box cs=>simp only[xV,xA] at h;exact⟨aN h.1.1,h.1.2,h.2⟩| arr s els=>simp only[xV,xA] at h;exact⟨aN h.1,trivial,h.2⟩| log s els=>simp only[xV,xA] at h;exact⟨aN h.1,trivial,h.2⟩| lent s els=>simp only[xV,xA] at h;exact⟨aN h.1,trivial,h.2⟩| mat s rows hs=>simp only[xV,xA] at h;exact⟨aN h.1.1,h.1.2,h.2⟩
theorem uL {n:Nat}{l:List (Nat×Obj')}(h:xV n l=true):n<1000000:=by
 induction l with
 |nil=>exact mO (by grind [xV])| cons a r ih=>exact ih (lQ (u:=a.1) (o:=a.2) h).2.2
theorem yY {n:Nat}{l:List (Nat×Obj')}(h:xV n l=true):∀ {m o},(m,o)∈l->m≠n/\bE n o:=by
 induction l with
 |nil=>grind| cons a r ih =>
  intro m o hm;obtain⟨h1,h2,h3⟩:=lQ (u:=a.1) (o:=a.2) h;grind
theorem aC {n:Nat}:∀ {hs:List (PV×(Unit->Nat))},sH n hs=true->∀ {v k},(v,k)∈hs->xN n v=true
 |(u,j)::r,h,v,k,hm=>by simp only[sH,xA] at h;rcases yS.1 hm with hm|hm;{grind};{exact aC h.2 hm}
theorem RowAt.upd {n:Nat}{x:Option Nat}{m s:Nat}{els:Unit->List (List D)}(h:RowAt w S β m s els)(hm:m≠n):RowAt w S (kY β n x) m s els:=by rcases h with⟨e0,e⟩|⟨b,vs,T,e1,rest⟩;{exact .inl ⟨by grind [w4],e⟩};{exact .inr ⟨b,vs,T,by grind [w4],rest⟩}
theorem ObjAt.upd {n:Nat}{x:Option Nat}{m:Nat}{o:Obj'}(h:ObjAt w S β m o)(hm:m≠n)(hf:bE n o):ObjAt w S (kY β n x) m o:=by
 cases o with
 |box cs =>
  obtain⟨b,vs,T,e1,e2,e3,e4⟩:=h;exact⟨b,vs,T,by grind [w4],e2,e3,λj hj=>(e4 j hj).upd (xS rfl hf j)⟩
 |arr s els=>exact RowAt.upd h hm| log s els=>exact RowAt.upd h hm| lent s els =>
  obtain⟨h,hst⟩:=h;exact⟨RowAt.upd h hm,λb hb i hi=>hst b (by grind [w4]) i hi⟩
 |mat s rows hs =>
  obtain⟨hp,h5,h6⟩:=h;refine⟨?_,h5,λi b hi hb=>by rw[w4 hm];exact h6 i b hi hb⟩;rcases hp with⟨e1,e2,e3⟩|⟨b,vs,T,h1,h2,h3,h4,h7⟩;{grind [w4]};{exact .inr ⟨b,vs,T,by grind [w4],h2,h3,λv k hk=>⟨(h4 v k hk).1,(h4 v k hk).2.upd (aC hf hk)⟩,h7⟩}
theorem Sim.freshO {ps:PS}(h:Sim w0 S0 K0 N (zD ps.tmps) ps.objs a w S β){n:Nat}{O:Obj'}(hf:yO n ps=true)(hO:∀ β':Bm,β' n=none->ObjAt w S β' n O)(hr:∀ i,¬vG O i):Sim w0 S0 K0 N (zD ps.tmps) (ps.objs++[(n,O)]) a w S (kY β n none):=by
 simp only[yO,xA] at hf;have hmem:∀ {m o},(m,o)∈ps.objs++[(n,O)]->((m,o)∈ps.objs/\m≠n)\/(m=n/\o=O):=by intro m o hm;simp only[wZ,fZ] at hm;rcases hm with hm|hm;{exact .inl ⟨hm,(yY hf.2 hm).1⟩};grind
 refine⟨h.dfr,h.sz,h.ld,λt=>(h.tmp t).upd (vP hf.1 t),⟨?_,?_,?_,?_⟩,?_,?_⟩;{rw[qS,l9];refine⟨h.obj.nd,by simp,?_⟩;intro x hx y hy e;simp at hy;subst hy e;obtain⟨⟨m,o⟩,h1,rfl⟩:=y9.1 hx;exact (yY hf.2 h1).1 rfl};{intro m o hm;rcases hmem hm with⟨h1,h2⟩|⟨rfl,rfl⟩;{exact (h.obj.at_ m o h1).upd h2 (yY hf.2 h1).2};{exact hO _ y8}};{intro m o b hm hβ;rcases hmem hm with⟨h1,h2⟩|⟨rfl,rfl⟩;{exact h.obj.un m o b h1 (w9 h2 hβ)};{have:=xF hr hβ;grind [y8]}};{intro m o m' o' b hm hm' hβ hβ';rcases hmem hm with⟨h1,h2⟩|⟨rfl,rfl⟩;{rcases hmem hm' with⟨h3,h4⟩|⟨rfl,rfl⟩;{exact h.obj.inj _ _ _ _ b h1 h3 (w9 h2 hβ) (w9 h4 hβ')};{have:=xF hr hβ';grind [y8]}};{have:=xF hr hβ;grind [y8]}};{intro m o b hm hβ;rcases hmem hm with⟨h1,h2⟩|⟨rfl,rfl⟩;{exact h.own m o b h1 (w9 h2 hβ)};{have:=xF hr hβ;grind [y8]}};{intro m o hm hb;rcases hmem hm with⟨h1,h2⟩|⟨rfl,rfl⟩;{rw[w4 h2];exact h.keep m o h1 hb};{have:=uL hf.2;omega}}
theorem Sim.fresh {ps:PS}(h:Sim w0 S0 K0 N (zD ps.tmps) ps.objs a w S β){n s:Nat}(hf:yO n ps=true):Sim w0 S0 K0 N (zD ps.tmps) (ps.objs++[(n,.arr s (λ_=>[]))]) a w S (kY β n none):=h.freshO hf (λβ' h=>.inl ⟨h,rfl⟩) λ_ hi=>hi
theorem Sim.setT {ps:PS}(h:Sim w0 S0 K0 N (zD ps.tmps) objs a w S β){t:Nat}{x:PV}(hx:Rep w S β (a.tmps.getD t undef) x):Sim w0 S0 K0 N (zD (vQ ps.tmps t x)) objs a w S β :=
 ⟨h.dfr,h.sz,h.ld,λu=>by
  rw[gH];by_cases e:u=t;{grind}
  ·simpa[e] using h.tmp u,h.obj,h.own,h.keep⟩
theorem wF:∀ {l:List (Nat×Obj')} {n:Nat} {x:Obj'} {m:Nat} {o:Obj'},(l.map Prod.fst).Nodup->n∈l.map Prod.fst->(m,o)∈setO l n x->(m=n/\o=x)\/(m≠n/\(m,o)∈l)
 |(u,v)::r,n,x,m,o,hnd,hn,hm=>by
  simp only[kK,WX] at hnd;simp only[setO] at hm;cases hu:nqb u n with
  |true =>
   have:=y5 hu;grind
  |false =>
   (have hne:u≠n:=λe=>by simp_all);simp only[hu,cond_false,yS] at hm
   rcases hm with hm|hm;{grind}
   ·(have hn':n∈r.map Prod.fst:=by grind);rcases wF hnd.2 hn' hm with h|⟨h1,h2⟩
    all_goals grind
 |[],n,x,m,o,hnd,hn,hm=>by grind
theorem uN:∀ {l:List (Nat×Obj')} {n:Nat} {x:Obj'},n∈l.map Prod.fst->(setO l n x).map Prod.fst=l.map Prod.fst
 |(u,v)::r,n,x,hn=>by
  simp only[setO];cases hu:nqb u n with
  |true=>simp_all| false =>
   (have hne:u≠n:=λe=>by simp_all);have hn':n∈r.map Prod.fst:=by grind
   simp only[cond_false,kK,uN hn']
 |[],n,x,hn=>by grind
theorem Dg:∀ {l:List (Nat×Obj')} {n:Nat} {x y:Obj'},(l.map Prod.fst).Nodup->(n,x)∈l->(n,y)∈l->x=y
 |(u,v)::r,n,x,y,hnd,h1,h2=>by simp only[kK,WX] at hnd;rcases yS.1 h1 with e1|h1;{grind};{rcases yS.1 h2 with e2|h2;{grind};{exact Dg hnd.2 h1 h2}}
theorem Sim.lend {ps:PS}(h:Sim w0 S0 K0 N (zD ps.tmps) ps.objs a w S β){n t:Nat}{o:Obj'}{s:Nat}{els:Unit->List (List D)}(ho:yK ps.objs n=some o)(hr:W8 o=some (s,els))(hf:fo n o (zD ps.tmps t)):∃ S' β',Sim w0 S0 K0 N (zD (vQ ps.tmps t (Go.Proofs.YtboocdbmnfjomaaGreat.frz n o (zD ps.tmps t)))) (Go.Proofs.YtboocdbmnfjomaaGreat.setO ps.objs n (.log s els)) a w S' β':=by
 have hmem:=xH ho;have hsz:=JE hr;have F:FrzAt w S (λb i=>S b i\/(β n=some b/\i<szO o)) β n o:=⟨λb i=>.inl,λb h i hi=>.inr ⟨h,hi⟩,h.obj.at_ n o hmem,by cases o <;> first|rfl|cases hr⟩;have hpo:∀ i,j3 o i->i<szO o:=λi hi=>by cases o <;> first|exact hi.elim|exact hi
 have hnin:n∈ps.objs.map Prod.fst:=y9.2 ⟨_,hmem,rfl⟩;have h1:Sim w0 S0 K0 N (zD ps.tmps) (Go.Proofs.YtboocdbmnfjomaaGreat.setO ps.objs n (.log s els)) a w (λb i=>S b i\/(β n=some b/\i<szO o)) β:=by
  refine⟨h.dfr,h.sz,?_,λt=>(h.tmp t).mono F.sub,⟨by rw[uN hnin];exact h.obj.nd,?_,?_,?_⟩,?_,?_⟩
  ·refine⟨h.ld.size,h.ld.os,h.ld.tape,h.ld.output,h.ld.same,h.ld.shape,?_,?_,?_⟩;{rintro b i (hS|hβ);{exact h.ld.bnd b i hS};{exact (h.obj.un n o b hmem (.inl hβ.1)).2}};{exact λb i hb hS=>.inl (h.ld.sub b i hb hS)}
   ·rintro b i hb hk (hS|hβ);{exact h.ld.old b i hb hk hS}
    ·rcases h.own n o b hmem (.inl hβ.1) with h'|h'
     all_goals grind
  {intro m x hm;rcases wF h.obj.nd hnin hm with⟨rfl,rfl⟩|⟨_,h2⟩;{exact RowAt.mono (eV hr (h.obj.at_ _ o hmem)) F.sub};{exact (h.obj.at_ m x h2).mono F.sub}};{intro m x b hm hβ;rcases wF h.obj.nd hnin hm with⟨rfl,rfl⟩|⟨hne,h2⟩;{have hβ:=xF (by intro _ hi;exact hi) hβ;refine⟨?_,(h.obj.un _ o b hmem (.inl hβ)).2⟩;rintro i (hS|hS);{have:=hpo i ((h.obj.un _ o b hmem (.inl hβ)).1 i hS);rw[hsz] at this;exact this};{rw[hsz] at hS;exact hS.2}};{refine⟨?_,(h.obj.un m x b h2 hβ).2⟩;rintro i (hS|hS);{exact (h.obj.un m x b h2 hβ).1 i hS};{exact absurd (h.obj.inj _ _ _ _ b h2 hmem hβ (.inl hS.1)) hne}}}
  ·(intro m x m' x' b hm hm' hβ hβ';have key:∀ {m x},(m,x)∈Go.Proofs.YtboocdbmnfjomaaGreat.setO ps.objs n (.log s els)->Own β m x b->∃ x',(m,x')∈ps.objs/\Own β m x' b:=by intro m x hm hb;rcases wF h.obj.nd hnin hm with⟨rfl,rfl⟩|⟨_,h2⟩;{exact⟨o,hmem,.inl (xF (by intro _ hi;exact hi) hb)⟩};grind);obtain⟨x1,h1,g1⟩:=key hm hβ;obtain⟨x2,h2,g2⟩:=key hm' hβ';exact h.obj.inj _ _ _ _ b h1 h2 g1 g2
  {intro m x b hm hβ;rcases wF h.obj.nd hnin hm with⟨rfl,rfl⟩|⟨_,h2⟩;{exact h.own _ o b hmem (.inl (xF (by intro _ hi;exact hi) hβ))};{exact h.own m x b h2 hβ}};{intro m x hm hb;rcases wF h.obj.nd hnin hm with⟨rfl,rfl⟩|⟨_,h2⟩;{exact h.keep _ o hmem hb};{exact h.keep m x h2 hb}}
 exact⟨_,β,h1.setT (Bb F (h.tmp t) hf)⟩
theorem Sim.pub {ps:PS}(h:Sim w0 S0 K0 N (zD ps.tmps) ps.objs a w S β){n:Nat}{o:Obj'}{s:Nat}{els:Unit->List (List D)}(ho:yK ps.objs n=some o)(hr:W8 o=some (s,els)):∃ S' β',Sim w0 S0 K0 N (zD ps.tmps) (Go.Proofs.YtboocdbmnfjomaaGreat.setO ps.objs n (.lent s els)) a w S' β':=by
 have hmem:=xH ho;have hsz:=JE hr;have F:FrzAt w S (λb i=>S b i\/(β n=some b/\i<szO o)) β n o:=⟨λb i=>.inl,λb h i hi=>.inr ⟨h,hi⟩,h.obj.at_ n o hmem,by cases o <;> first|rfl|cases hr⟩;have hpo:∀ i,j3 o i->i<szO o:=λi hi=>by cases o <;> first|exact hi.elim|exact hi
 have hnin:n∈ps.objs.map Prod.fst:=y9.2 ⟨_,hmem,rfl⟩;have h1:Sim w0 S0 K0 N (zD ps.tmps) (Go.Proofs.YtboocdbmnfjomaaGreat.setO ps.objs n (.lent s els)) a w (λb i=>S b i\/(β n=some b/\i<szO o)) β:=by
  refine⟨h.dfr,h.sz,?_,λt=>(h.tmp t).mono F.sub,⟨by rw[uN hnin];exact h.obj.nd,?_,?_,?_⟩,?_,?_⟩
  ·refine⟨h.ld.size,h.ld.os,h.ld.tape,h.ld.output,h.ld.same,h.ld.shape,?_,?_,?_⟩;{rintro b i (hS|hβ);{exact h.ld.bnd b i hS};{exact (h.obj.un n o b hmem (.inl hβ.1)).2}};{exact λb i hb hS=>.inl (h.ld.sub b i hb hS)}
   ·rintro b i hb hk (hS|hβ);{exact h.ld.old b i hb hk hS}
    ·rcases h.own n o b hmem (.inl hβ.1) with h'|h'
     all_goals grind
  {intro m x hm;rcases wF h.obj.nd hnin hm with⟨rfl,rfl⟩|⟨_,h2⟩;{exact⟨RowAt.mono (eV hr (h.obj.at_ _ o hmem)) F.sub,λb hb i hi=>F.new b hb i oM⟩};{exact (h.obj.at_ m x h2).mono F.sub}};{intro m x b hm hβ;rcases wF h.obj.nd hnin hm with⟨rfl,rfl⟩|⟨hne,h2⟩;{have hβ:=xF (by intro _ hi;exact hi) hβ;refine⟨?_,(h.obj.un _ o b hmem (.inl hβ)).2⟩;rintro i (hS|hS);{have:=hpo i ((h.obj.un _ o b hmem (.inl hβ)).1 i hS);rw[hsz] at this;exact this};{rw[hsz] at hS;exact hS.2}};{refine⟨?_,(h.obj.un m x b h2 hβ).2⟩;rintro i (hS|hS);{exact (h.obj.un m x b h2 hβ).1 i hS};{exact absurd (h.obj.inj _ _ _ _ b h2 hmem hβ (.inl hS.1)) hne}}}
  ·(intro m x m' x' b hm hm' hβ hβ';have key:∀ {m x},(m,x)∈Go.Proofs.YtboocdbmnfjomaaGreat.setO ps.objs n (.lent s els)->Own β m x b->∃ x',(m,x')∈ps.objs/\Own β m x' b:=by intro m x hm hb;rcases wF h.obj.nd hnin hm with⟨rfl,rfl⟩|⟨_,h2⟩;{exact⟨o,hmem,.inl (xF (by intro _ hi;exact hi) hb)⟩};grind);obtain⟨x1,h1,g1⟩:=key hm hβ;obtain⟨x2,h2,g2⟩:=key hm' hβ';exact h.obj.inj _ _ _ _ b h1 h2 g1 g2
  {intro m x b hm hβ;rcases wF h.obj.nd hnin hm with⟨rfl,rfl⟩|⟨_,h2⟩;{exact h.own _ o b hmem (.inl (xF (by intro _ hi;exact hi) hβ))};{exact h.own m x b h2 hβ}};{intro m x hm hb;rcases wF h.obj.nd hnin hm with⟨rfl,rfl⟩|⟨_,h2⟩;{exact h.keep _ o hmem hb};{exact h.keep m x h2 hb}}
 grind
theorem Sim.setO (h:Sim w0 S0 K0 N τ objs a w S β){n:Nat}{x:Obj'}(hn:n∈objs.map Prod.fst)(hx:ObjAt w S β n x)(hpub:∀ o0,(n,o0)∈objs->∀ i,j3 o0 i->j3 x i)(hown:∀ o0,(n,o0)∈objs->∀ b,Own β n x b->Own β n o0 b):Sim w0 S0 K0 N τ (Go.Proofs.YtboocdbmnfjomaaGreat.setO objs n x) a w S β:=by
 obtain⟨⟨n',o0⟩,hm0,rfl⟩:=y9.1 hn;have key:∀ {m o b},(m,o)∈Go.Proofs.YtboocdbmnfjomaaGreat.setO objs n' x->Own β m o b->∃ o',(m,o')∈objs/\Own β m o' b:=by
  intro m o b hm hb;rcases wF h.obj.nd hn hm with⟨rfl,rfl⟩|⟨_,h2⟩
  all_goals grind
 have key0:∀ {m o},(m,o)∈Go.Proofs.YtboocdbmnfjomaaGreat.setO objs n' x->∃ o',(m,o')∈objs:=by
  intro m o hm;rcases wF h.obj.nd hn hm with⟨rfl,rfl⟩|⟨_,h2⟩
  all_goals grind
 refine⟨h.dfr,h.sz,h.ld,h.tmp,⟨by rw[uN hn];exact h.obj.nd,?_,?_,?_⟩,?_,?_⟩;{intro m o hm;rcases wF h.obj.nd hn hm with⟨rfl,rfl⟩|⟨_,h2⟩;{exact hx};{exact h.obj.at_ m o h2}};{intro m o b hm hβ;rcases wF h.obj.nd hn hm with⟨rfl,rfl⟩|⟨_,h2⟩;{have hβ:=hown o0 hm0 b hβ;exact⟨λi hS=>hpub o0 hm0 i ((h.obj.un _ o0 b hm0 hβ).1 i hS),(h.obj.un _ o0 b hm0 hβ).2⟩};{exact h.obj.un m o b h2 hβ}};{intro m o m' o' b hm hm' hβ hβ';obtain⟨x1,h1,g1⟩:=key hm hβ;obtain⟨x2,h2,g2⟩:=key hm' hβ';exact h.obj.inj _ _ _ _ b h1 h2 g1 g2};{intro m o b hm hβ;obtain⟨o',h1,g1⟩:=key hm hβ;exact h.own m o' b h1 g1};{intro m o hm hb;obtain⟨o',h1⟩:=key0 hm;exact h.keep m o' h1 hb}
theorem Q5 (cs:List PV)(j k:Nat)(x:PV)(hk:k<cs.length):(cs.set j x).getD k .any=if j=k then x else cs.getD k .any:=by grind
theorem eR {n:Nat}{v pv}(h:Rep w S β v pv):Rep w S β v (sc0 n pv):=by
 cases pv with
 |agg cs=>exact wI _| tup cs=>exact wI _| fn f cs=>exact wI _| ptr m off=>simp only[sc0];cases nqb m n <;> first|exact h|exact wI _
 |aptr m s i off=>simp only[sc0];cases nqb m n <;> first|exact h|exact wI _
 |osl m s i len=>simp only[sc0];cases nqb m n <;> first|exact h|exact wI _
 |_=>exact h
theorem Ux {n:Nat}{v pv}(h:Rep w S β v pv):Rep w S β v (sc1 n pv):=by
 cases pv with
 |agg cs =>
  obtain⟨vs,rfl,h1,h2⟩:=qZ h;exact .agg (by grind [zN]) λj hj=>by rw[zN] at hj;rw[yP _ rfl];grind [eR]
 |tup cs =>
  obtain⟨vs,rfl,h1,h2⟩:=dF h;exact .tup (by grind [zN]) λj hj=>by rw[zN] at hj;rw[yP _ rfl];grind [eR]
 |fn f cs =>
  obtain⟨vs,rfl,h1,h2⟩:=dH h;exact .fn (by grind [zN]) λj hj=>by rw[zN] at hj;rw[yP _ rfl];grind [eR]
 |_=>exact eR (n:=n) h
theorem YC {n:Nat}{v pv}(h:Rep w S β v pv):Rep w S β v (scr n pv):=by
 cases pv with
 |agg cs =>
  obtain⟨vs,rfl,h1,h2⟩:=qZ h;exact .agg (by grind [zN]) λj hj=>by rw[zN] at hj;rw[yP _ rfl];grind [Ux]
 |tup cs =>
  obtain⟨vs,rfl,h1,h2⟩:=dF h;exact .tup (by grind [zN]) λj hj=>by rw[zN] at hj;rw[yP _ rfl];grind [Ux]
 |fn f cs =>
  obtain⟨vs,rfl,h1,h2⟩:=dH h;exact .fn (by grind [zN]) λj hj=>by rw[zN] at hj;rw[yP _ rfl];grind [Ux]
 |_=>exact eR (n:=n) h
theorem b8 (n:Nat):scr n .any=.any:=rfl
theorem Sim.drop {ps:PS}(h:Sim w0 S0 K0 N (zD ps.tmps) ps.objs a w S β)(n:Nat):Sim w0 S0 K0 N (zD (xW (scr n) ps.tmps)) (y6 (scr n) (xK ps.objs n)) a w S β:=by
 refine⟨h.dfr,h.sz,h.ld,λt=>by rw[uJ _ (b8 n)];exact YC (h.tmp t),⟨?_,?_,?_,?_⟩,?_,?_⟩;{rw[gW];exact (mZ _ _).nodup h.obj.nd}
 ·intro m o' hm;obtain⟨o'',h1,h2⟩:=wR _ hm;obtain⟨h3,h4⟩:=wT h1;have hat:=h.obj.at_ m o'' h3;cases o'' with
  |box cs =>
   subst h2;obtain⟨b,vs,T,e1,e2,e3,e4⟩:=hat;exact⟨b,vs,T,e1,e2,by grind [zN],λj hj=>by grind [zN,yP,b8,YC]⟩
  |arr s els=>subst h2;exact hat| log s els=>subst h2;exact hat| lent s els=>subst h2;exact hat| mat s rows hs=>subst h2;exact MatAt.map hat (λ_ _ h=>h) λv x k hk hv=>YC hv
 {intro m o' b hm hβ;obtain⟨o'',h1,rfl⟩:=wR _ hm;have:=h.obj.un m o'' b (wT h1).1 (v4 hβ);grind [r5]};{intro m o' m' o'' b hm hm' hβ hβ';obtain⟨x,h1,rfl⟩:=wR _ hm;obtain⟨y,h2,rfl⟩:=wR _ hm';exact h.obj.inj _ _ _ _ b (wT h1).1 (wT h2).1 (v4 hβ) (v4 hβ')};{intro m o' b hm hβ;obtain⟨x,h1,rfl⟩:=wR _ hm;exact h.own m x b (wT h1).1 (v4 hβ)};{intro m o' hm hb;obtain⟨x,h1,_⟩:=wR _ hm;exact h.keep m x (wT h1).1 hb}
theorem Sim.adopt {ps:PS}(h:Sim w0 S0 K0 N (zD ps.tmps) ps.objs a w S β){n s m j:Nat}{cs:List PV}{O:Obj'}(hO:∀ β':Bm,β' n=none->ObjAt w S β' n O)(hr:∀ i,¬vG O i)(hf:yO n ps=true)(ho:yK ps.objs m=some (.box cs))(hj:jN (cs.getD j .any)=true):∃ S' β',Sim w0 S0 K0 N (zD ps.tmps) (Go.Proofs.YtboocdbmnfjomaaGreat.setO ps.objs m (.box (cs.set j (.osl n s (λ_=>0) (λ_=>0))))++[(n,O)]) a w S' β':=by
 have hmem:=xH ho;have hf':=hf;simp only[yO,xA] at hf';have hmn:=(yY hf'.2 hmem).1;have h1:=h.freshO hf hO hr;obtain⟨b,vs,T,e1,e2,e3,e4⟩:=h.obj.at_ m _ hmem;have hin:m∈(ps.objs++[(n,O)]).map Prod.fst:=by grind
 have hjl:j<cs.length:=by refine Nat.lt_of_not_le λh=>?_;rw[wM,rM h] at hj;cases hj
 have h2:=h1.setO (n:=m) (x:=.box (cs.set j (.osl n s (λ_=>0) (λ_=>0)))) hin ⟨b,vs,T,by grind [w4],e2,by grind,λk hk=>by
  simp only[dV] at hk;rw[Q5 _ _ _ _ hk];by_cases hjk:j=k;{subst hjk;rw[if_pos rfl];have:=e4 j hk;obtain⟨⟨av,hv⟩,_⟩:=eY hj this;rw[hv];exact .osl0 y8 rfl rfl}
  ·rw[if_neg hjk];exact (e4 k hk).upd (xS rfl (yY hf'.2 hmem).2 k)⟩ (λo0 ho0 i hp=>by
  have hms:(m,Obj'.box cs)∈ps.objs++[(n,O)]:=Zk _ hmem;have:=Dg h1.obj.nd ho0 hms;rw[this] at hp;exact hp.elim) (λo0 _ b hb=>.inl (xF (by intro _ hi;exact hi) hb))
 refine⟨S,kY β n none,?_⟩;have:Go.Proofs.YtboocdbmnfjomaaGreat.setO (ps.objs++[(n,O)]) m (.box (cs.set j (.osl n s (λ_=>0) (λ_=>0))))=Go.Proofs.YtboocdbmnfjomaaGreat.setO ps.objs m (.box (cs.set j (.osl n s (λ_=>0) (λ_=>0))))++[(n,O)]:=by
  have gen:∀ (l:List (Nat×Obj')) (k:List (Nat×Obj')) (x:Obj'),m∈l.map Prod.fst->Go.Proofs.YtboocdbmnfjomaaGreat.setO (l++k) m x=Go.Proofs.YtboocdbmnfjomaaGreat.setO l m x++k:=by
   intro l k x hm;induction l with
   |nil=>grind| cons p r ih =>
    obtain⟨u,v⟩:=p;simp only[Vm,Go.Proofs.YtboocdbmnfjomaaGreat.setO];cases hu:nqb u m with
    |true=>rfl| false =>
     (have hne:u≠m:=λe=>by simp_all);grind
  grind
 grind
theorem mQ (f:PV->PV):∀ (l k:List (PV×(Unit->Nat))),gG f (l++k)=gG f l++gG f k
 |[],k=>rfl| (v,i)::r,k=>by simp only[Vm,gG,mQ f r k]
theorem Sim.focus {ps:PS}(h:Sim w0 S0 K0 N (zD ps.tmps) ps.objs a w S β){n k:Nat}{i:Unit->Nat}{s:Nat}{rows:Unit->List (List (List D))}{hs:List (PV×(Unit->Nat))}(ho:yK ps.objs n=some (.mat s rows hs))(hf:yO k ps=true)(hi:FocOk i rows hs):Sim w0 S0 K0 N (zD ps.tmps) (Go.Proofs.YtboocdbmnfjomaaGreat.setO ps.objs n (.mat s rows ((.osl k s (λ_=>0) (λ_=>((rows ()).getD (i ()) []).length),i)::hs))++[(k,.arr s (λ_=>(rows ()).getD (i ()) []))]) a w S (kY β k (β.r n (i ()))):=by
 have hmem:=xH ho;simp only[yO,xA] at hf;obtain⟨hil,hih⟩:=hi.h;have hnk:n≠k:=(yY hf.2 hmem).1;have hM:MatAt w S β n s rows hs:=h.obj.at_ n _ hmem;have hri:vG (.mat s rows hs) (i ()):=⟨hil,hih⟩;have hnin:n∈ps.objs.map Prod.fst:=y9.2 ⟨_,hmem,rfl⟩;obtain⟨b0,vs,T,hβ,hb,hsz,hhs,hrs⟩:∃ (b:Nat) (vs:Array Value) (T:TypeId),β n=some b/\w.heap[b]?=some (.cells vs T (0,0))/\(rows ()).length<=vs.size /\
   (∀ v k,(v,k)∈hs->k ()<(rows ()).length/\Rep w S β (vs.getD (k ()) undef) v)/\∀ i,vG (.mat s rows hs) i->RowIn w S (β.r n i) (vs.getD i undef) s ((rows ()).getD i []):=by
  rcases hM.pl with⟨_,h2,_⟩|h2
  all_goals grind
 have hrow:=hrs _ hri;have hsub:∀ {j},vG (.mat s rows ((.osl k s (λ_=>0) (λ_=>((rows ()).getD (i ()) []).length),i)::hs)) j->vG (.mat s rows hs) j/\j≠i () :=
  λhj=>⟨⟨hj.1,λv k' hk'=>hj.2 v k' (w6 _ hk')⟩,λe=>hj.2 _ i vH e.symm⟩
 have key:∀ {m o},(m,o)∈Go.Proofs.YtboocdbmnfjomaaGreat.setO ps.objs n (.mat s rows ((.osl k s (λ_=>0) (λ_=>((rows ()).getD (i ()) []).length),i)::hs))++[(k,Obj'.arr s (λ_=>(rows ()).getD (i ()) []))] ->
   (m=n/\o=.mat s rows ((.osl k s (λ_=>0) (λ_=>((rows ()).getD (i ()) []).length),i)::hs))\/(m≠n/\m≠k/\(m,o)∈ps.objs)\/(m=k/\o=.arr s (λ_=>(rows ()).getD (i ()) [])):=by
  intro m o hm;rcases wZ.1 hm with hm|hm;{rcases wF h.obj.nd hnin hm with h1|⟨h1,h2⟩;{grind};{exact .inr (.inl ⟨h1,(yY hf.2 h2).1,h2⟩)}};grind
 
 have own:∀ {m o b},(m,o)∈Go.Proofs.YtboocdbmnfjomaaGreat.setO ps.objs n (.mat s rows ((.osl k s (λ_=>0) (λ_=>((rows ()).getD (i ()) []).length),i)::hs))++[(k,Obj'.arr s (λ_=>(rows ()).getD (i ()) []))]->Own (kY β k (β.r n (i ()))) m o b ->
   (m=n/\Own β n (.mat s rows hs) b/\β.r n (i ())≠some b)\/(m≠n/\m≠k/\(m,o)∈ps.objs/\Own β m o b)\/(m=k/\β.r n (i ())=some b):=by
  intro m o b hm hb';rcases key hm with⟨rfl,rfl⟩|⟨h1,h2,h3⟩|⟨rfl,rfl⟩;{refine .inl ⟨rfl,?_⟩;rcases hb' with e|⟨j,hj,e⟩;{rw[w4 hnk] at e;exact⟨.inl e,λe'=>hM.ne _ _ hri e' e⟩};{have e:β.r m j=some b:=e;exact⟨.inr ⟨j,(hsub hj).1,e⟩,λe'=>(hsub hj).2 (hM.inj _ _ _ (hsub hj).1 hri e e')⟩}};{grind [w9]};{have:=xF (by intro _ hi;exact hi) hb';rw[y8] at this;grind}
 refine⟨h.dfr,h.sz,h.ld,λt=>(h.tmp t).upd (vP hf.1 t),⟨?_,?_,?_,?_⟩,?_,?_⟩;{rw[qS,l9,uN hnin];refine⟨h.obj.nd,by simp,?_⟩;intro x hx y hy e;simp at hy;subst hy e;obtain⟨⟨m,o⟩,h1,rfl⟩:=y9.1 hx;exact (yY hf.2 h1).1 rfl}
 ·intro m o hm;rcases key hm with⟨rfl,rfl⟩|⟨h1,h2,h3⟩|⟨rfl,rfl⟩
  ·refine⟨.inr ⟨b0,vs,T,by grind [w4],hb,hsz,?_,λj hj=>hrs j (hsub hj).1⟩,λj j' b hj hj'=>hM.inj j j' b (hsub hj).1 (hsub hj').1,λj b hj e=>by rw[w4 hnk];exact hM.ne j b (hsub hj).1 e⟩;intro v k' hk';rcases yS.1 hk' with e|hk'
   ·(cases e;refine⟨hil,?_⟩;rcases hrow with⟨e1,e2,aa,e3⟩|⟨b,cap,us,T',e1,e2,e3,e4,e5,_⟩);{rw[e3];exact .osl0 (by grind [y8]) rfl (by grind)}
    {rw[e2];have:=Rep.osl (w:=w) (S:=S) (β:=kY β k (β.r m (i ()))) (n:=k) (s:=s) (cap:=cap) (b:=b) (o:=λ_=>0) (len:=λ_=>((rows ()).getD (i ()) []).length) (by rw[y8];exact e1) e3 e4 (by grind);grind}
   {exact⟨(hhs v k' hk').1,(hhs v k' hk').2.upd (aC (yY hf.2 hmem).2 hk')⟩}
  {exact (h.obj.at_ m o h3).upd h2 (yY hf.2 h3).2};{rcases hrow with⟨e1,e2,_⟩|⟨b,cap,us,T',e1,_,e3,e4,e5,e6,e7⟩;{exact .inl ⟨by grind [y8],e2⟩};{exact .inr ⟨b,us,T',by rw[y8];exact e1,e4,vF (uR _ e3) e5,e6,e7⟩}}
 {intro m o b hm hb';rcases own hm hb' with⟨rfl,h1,_⟩|⟨_,_,h3,h4⟩|⟨rfl,h1⟩;{refine⟨λj hS=>(h.obj.un _ _ b hmem h1).1 j hS |>.elim,(h.obj.un _ _ b hmem h1).2⟩};{exact h.obj.un m o b h3 h4};{refine⟨λj hS=>(h.obj.un _ _ b hmem (.inr ⟨_,hri,h1⟩)).1 j hS |>.elim,(h.obj.un _ _ b hmem (.inr ⟨_,hri,h1⟩)).2⟩}}
 ·(intro m o m' o' b hm hm' hb1 hb2;rcases own hm hb1 with⟨rfl,h1,g1⟩|⟨h2,_,h3,h4⟩|⟨rfl,h1⟩ <;> rcases own hm' hb2 with⟨rfl,h1',g1'⟩|⟨h2',_,h3',h4'⟩|⟨rfl,h1'⟩);{rfl}
  {exact h.obj.inj _ _ _ _ b hmem h3' h1 h4'};{grind};{exact h.obj.inj _ _ _ _ b h3 hmem h4 h1'};{exact h.obj.inj _ _ _ _ b h3 h3' h4 h4'};{exact absurd (h.obj.inj _ _ _ _ b h3 hmem h4 (.inr ⟨_,hri,h1'⟩)) h2};{grind};{exact absurd (h.obj.inj _ _ _ _ b h3' hmem h4' (.inr ⟨_,hri,h1⟩)) h2'};{rfl}
 {intro m o b hm hb';rcases own hm hb' with⟨rfl,h1,_⟩|⟨_,_,h3,h4⟩|⟨rfl,h1⟩;{exact h.own _ _ b hmem h1};{exact h.own m o b h3 h4};{exact h.own _ _ b hmem (.inr ⟨_,hri,h1⟩)}};{intro m o hm hb';rcases key hm with⟨rfl,rfl⟩|⟨h1,h2,h3⟩|⟨rfl,rfl⟩;{rw[w4 hnk];exact h.keep _ _ hmem hb'};{rw[w4 h2];exact h.keep m o h3 hb'};{have:=uL hf.2;omega}}
def updR (β:Bm) (n i:Nat) (x:Option Nat):Bm:=⟨β.o,λm j=>if m=n/\j=i then x else β.r m j⟩
theorem eM {β:Bm}{n i:Nat}{x:Option Nat}:(updR β n i x).r n i=x:=by simp[updR]
theorem dD {β:Bm}{n i m j:Nat}{x:Option Nat}(h:m≠n\/j≠i):(updR β n i x).r m j=β.r m j:=by show (if m=n/\j=i then x else β.r m j)=β.r m j;grind
theorem ObjAt.updR {n i:Nat}{x:Option Nat}{m:Nat}{o:Obj'}(h:ObjAt w S β m o)(hm:m≠n):ObjAt w S (updR β n i x) m o:=by
 have hp:∀ {v pv},Rep w S β v pv->Rep w S (Go.Proofs.YtboocdbmnfjomaaGreat.updR β n i x) v pv:=λh=>Rep.place (β:=β) (βf:=Go.Proofs.YtboocdbmnfjomaaGreat.updR β n i x) (λ_=>rfl) h;cases o with
 |box cs =>
  obtain⟨b,vs,T,e1,e2,e3,e4⟩:=h;exact⟨b,vs,T,e1,e2,e3,λj hj=>hp (e4 j hj)⟩
 |arr s els=>exact h| log s els=>exact h| lent s els=>exact h| mat s rows hs =>
  obtain⟨h1,h2,h3⟩:=h;refine⟨?_,λj j' b hj hj'=>by grind [dD],λj b hj=>by rw[dD (.inl hm)];exact h3 j b hj⟩;rcases h1 with h1|⟨b,vs,T,e1,e2,e3,e4,e5⟩;{exact .inl h1};{exact .inr ⟨b,vs,T,e1,e2,e3,λv k hk=>⟨(e4 v k hk).1,hp (e4 v k hk).2⟩,λj hj=>by grind [dD]⟩}
theorem Sim.rowIn {objs:List (Nat×Obj')}(h:Sim w0 S0 K0 N τ objs a w S β){n s:Nat}{rows:Unit->List (List (List D))}{hs1 hs2:List (PV×(Unit->Nat))}{v0:PV}{i:Unit->Nat}(hmem:(n,Obj'.mat s rows (hs1++(v0,i)::hs2))∈objs) {x:Option Nat} {els:List (List D)} (hx:∀ b vs T,β n=some b->w.heap[b]?=some (.cells vs T (0,0))->RowIn w S x (vs.getD (i ()) undef) s els) (hfree:∀ b,x=some b->(∀ m o,(m,o)∈objs->¬Own β m o b)/\(w0.heap.size<=b\/K0 b)/\b<w.heap.size/\∀ j,¬S b j):Sim w0 S0 K0 N τ (Go.Proofs.YtboocdbmnfjomaaGreat.setO objs n (.mat s (λ_=>(rows ()).set (i ()) els) (hs1++hs2))) a w S (updR β n (i ()) x):=by
 have hM:MatAt w S β n s rows (hs1++(v0,i)::hs2):=h.obj.at_ n _ hmem;have hnin:n∈objs.map Prod.fst:=y9.2 ⟨_,hmem,rfl⟩;have hp:∀ {v pv},Rep w S β v pv->Rep w S (updR β n (i ()) x) v pv:=λh=>Rep.place (β:=β) (βf:=updR β n (i ()) x) (λ_=>rfl) h;have hin:∀ {v k},(v,k)∈hs1++hs2->(v,k)∈hs1++(v0,i)::hs2:=λhk=>by grind
 obtain⟨b0,vs,T,hβ,hb,hsz,hhs,hrs⟩:∃ (b:Nat) (vs:Array Value) (T:TypeId),β n=some b/\w.heap[b]?=some (.cells vs T (0,0))/\(rows ()).length<=vs.size /\
   (∀ v k,(v,k)∈hs1++(v0,i)::hs2->k ()<(rows ()).length/\Rep w S β (vs.getD (k ()) undef) v)/\∀ j,vG (.mat s rows (hs1++(v0,i)::hs2)) j->RowIn w S (β.r n j) (vs.getD j undef) s ((rows ()).getD j []):=by
  rcases hM.pl with⟨_,_,h2⟩|h2;{grind};omega
 have hil:i ()<(rows ()).length:=(hhs v0 i (nA _ vH)).1;have hrow:∀ {j},vG (.mat s (λ_=>(rows ()).set (i ()) els) (hs1++hs2)) j->j≠i ()->vG (.mat s rows (hs1++(v0,i)::hs2)) j:=by intro j hj hne;refine⟨by simpa using hj.1,λv k hk=>?_⟩;rcases wZ.1 hk with h'|h';{exact hj.2 v k (Zk _ h')};{rcases yS.1 h' with e|h';{grind};{exact hj.2 v k (nA _ h')}}
 have key:∀ {m o},(m,o)∈Go.Proofs.YtboocdbmnfjomaaGreat.setO objs n (.mat s (λ_=>(rows ()).set (i ()) els) (hs1++hs2))->(m=n/\o=.mat s (λ_=>(rows ()).set (i ()) els) (hs1++hs2))\/(m≠n/\(m,o)∈objs):=λhm=>wF h.obj.nd hnin hm;have own:∀ {m o b},(m,o)∈Go.Proofs.YtboocdbmnfjomaaGreat.setO objs n (.mat s (λ_=>(rows ()).set (i ()) els) (hs1++hs2))->Own (updR β n (i ()) x) m o b->(m=n/\x=some b)\/∃ o',(m,o')∈objs/\Own β m o' b/\(m≠n->o'=o):=by intro m o b hm hb';rcases key hm with⟨rfl,rfl⟩|⟨h1,h2⟩;{rcases hb' with e|⟨j,hj,e⟩;{exact .inr ⟨_,hmem,.inl e,λh=>absurd rfl h⟩};{by_cases hji:j=i ();{subst hji;rw[eM] at e;grind};{rw[dD (.inr hji)] at e;exact .inr ⟨_,hmem,.inr ⟨j,hrow hj hji,e⟩,λh=>absurd rfl h⟩}}};{refine .inr ⟨o,h2,?_,λ_=>rfl⟩;rcases hb' with e|⟨j,hj,e⟩;{exact .inl e};{rw[dD (.inl h1)] at e;exact .inr ⟨j,hj,e⟩}}
 refine⟨h.dfr,h.sz,h.ld,λt=>hp (h.tmp t),⟨by rw[uN hnin];exact h.obj.nd,?_,?_,?_⟩,?_,?_⟩
 ·intro m o hm;rcases key hm with⟨rfl,rfl⟩|⟨h1,h2⟩
  ·refine⟨.inr ⟨b0,vs,T,hβ,hb,by grind,λv k hk=>⟨by grind,hp (hhs v k (hin hk)).2⟩,λj hj=>?_⟩,?_,?_⟩;{by_cases hji:j=i ();{subst hji;rw[eM];grind};{rw[dD (.inr hji)];grind}}
   ·(intro j j' b hj hj' e e';by_cases hji:j=i () <;> by_cases hji':j'=i ());{omega}
    {subst hji;rw[eM] at e;rw[dD (.inr hji')] at e';exact absurd (.inr ⟨j',hrow hj' hji',e'⟩) ((hfree b e).1 m _ hmem)};{subst hji';rw[eM] at e';rw[dD (.inr hji)] at e;exact absurd (.inr ⟨j,hrow hj hji,e⟩) ((hfree b e').1 m _ hmem)};{rw[dD (.inr hji)] at e;rw[dD (.inr hji')] at e';exact hM.inj j j' b (hrow hj hji) (hrow hj' hji') e e'}
   {intro j b hj e e';by_cases hji:j=i ();{subst hji;rw[eM] at e;exact (hfree b e).1 m _ hmem (.inl e')};{rw[dD (.inr hji)] at e;exact hM.ne j b (hrow hj hji) e e'}}
  {exact (h.obj.at_ m o h2).updR h1}
 {intro m o b hm hb';rcases own hm hb' with⟨rfl,e⟩|⟨o',h1,h2,h3⟩;{grind};{refine⟨λj hS=>?_,(h.obj.un m o' b h1 h2).2⟩;have h4:=(h.obj.un m o' b h1 h2).1 j hS;by_cases hmn:m=n;{subst hmn;have:=Dg h.obj.nd h1 hmem;rw[this] at h4;exact h4.elim};grind}}
 ·(intro m o m' o' b hm hm' hb1 hb2;rcases own hm hb1 with⟨rfl,e⟩|⟨o1,h1,h2,_⟩ <;> rcases own hm' hb2 with⟨rfl,e'⟩|⟨o2,h1',h2',_⟩);{rfl}
  {grind};{grind};{exact h.obj.inj _ _ _ _ b h1 h1' h2 h2'}
 {intro m o b hm hb';rcases own hm hb' with⟨rfl,e⟩|⟨o',h1,h2,_⟩;{grind};{exact h.own m o' b h1 h2}};{intro m o hm hb';rcases key hm with⟨rfl,rfl⟩|⟨h1,h2⟩;{exact h.keep _ _ hmem hb'};{exact h.keep m o h2 hb'}}
theorem pA:∀ {l:List (Nat×Obj')} {n m:Nat} {o:Obj'},(m,o)∈l->m≠n->(m,o)∈xK l n
 |(u,v)::r,n,m,o,hm,hne=>by
  simp only[xK];cases hu:nqb u n with
  |true =>
   rcases yS.1 hm with e|hm;{simp_all};{exact pA hm hne}
  |false =>
   rcases yS.1 hm with e|hm;{grind};{exact w6 _ (pA hm hne)}
theorem r9 (f:PV->PV):∀ {l:List (Nat×Obj')} {n:Nat} {o:Obj'},(n,o)∈l->(n,xY f o)∈y6 f l
 |(u,v)::r,n,o,hm=>by rcases yS.1 hm with e|hm;{cases e;cases v <;> exact vH};{have:=r9 f hm;cases v <;> exact w6 _ this}
theorem Sim.unfocus {ps:PS}(h:Sim w0 S0 K0 N (zD ps.tmps) ps.objs a w S β){n k:Nat}{hs1 hs2:List (PV×(Unit->Nat))}{s:Nat}{rows:Unit->List (List (List D))}{i o len:Unit->Nat}{els:Unit->List (List D)}(ho:yK ps.objs n=some (.mat s rows (hs1++(.osl k s o len,i)::hs2)))(hk:yK ps.objs k=some (.arr s els))(hne:nqb n k=false)(h0:o ()=0/\len ()=(els ()).length):Sim w0 S0 K0 N (zD (xW (scr k) ps.tmps)) (Go.Proofs.YtboocdbmnfjomaaGreat.setO (y6 (scr k) (xK ps.objs k)) n (.mat s (λ_=>(rows ()).set (i ()) (els ())) (gG (scr k) (hs1++hs2)))) a w S (updR β n (i ()) (β k)):=by
 have hnk:n≠k:=λe=>by grind
 have hmem:=xH ho;have hmk:=xH hk;have hR:RowAt w S β k s els:=h.obj.at_ k _ hmk;have hM:MatAt w S β n s rows (hs1++(.osl k s o len,i)::hs2):=h.obj.at_ n _ hmem;have hin:(n,Obj'.mat s rows (gG (scr k) hs1++(scr k (.osl k s o len),i)::gG (scr k) hs2))∈y6 (scr k) (xK ps.objs k):=by have:=r9 (scr k) (pA hmem hnk);grind [xY,mQ,gG]
 rw[mQ];refine Sim.rowIn (h.drop k) hin ?_ ?_
 ·intro b vs T hb hw;rcases hM.pl with⟨_,_,h2⟩|⟨b',vs',T',e1,e2,_,e4,_⟩;{grind}
  ·(rw[hb] at e1;cases e1;rw[hw] at e2;cases e2;have hr:=(e4 _ i (nA _ vH)).2;generalize vs.getD (i ()) undef=v at hr ⊢;rcases hR with⟨e5,e6⟩|⟨bk,us,Tk,e5,e6,e7,e8,e9⟩);{refine .inl ⟨e5,e6,?_⟩;grind [uT]}
   {rcases uT hr with⟨g1,_⟩|⟨b1,cap,us1,T1,g1,g3,g4,g5,hv⟩;{grind};{rw[e5] at g1;cases g1;rw[e6] at g4;cases g4;rw[h0.1] at hv g5;refine .inr ⟨bk,cap,us,Tk,e5,by grind,by omega,e6,by grind,e8,e9⟩}}
 {intro b hb;have hob:Own β k (.arr s els) b:=.inl hb;refine⟨λm o' hm hb'=>?_,h.own k _ b hmk hob,(h.obj.un k _ b hmk hob).2,λj hS=>(h.obj.un k _ b hmk hob).1 j hS⟩;obtain⟨o'',h1,rfl⟩:=wR _ hm;obtain⟨h3,h4⟩:=wT h1;exact h4 (h.obj.inj _ _ _ _ b h3 hmk (v4 hb') hob)}
theorem Wk.sound {ps ps':PS}(k:Wk ps ps'):∀ {S β},Sim w0 S0 K0 N (zD ps.tmps) ps.objs a w S β->∃ S' β',Sim w0 S0 K0 N (zD ps'.tmps) ps'.objs a w S' β':=by
 induction k with
 |refl ps=>grind| le ht ho hn=>intro S β h;exact⟨S,β,h.le ht ho hn⟩| frz n ho hc hT hO=>intro S β h;exact h.frz ho hc hT hO| lend n t ho hr hf=>intro S β h;exact h.lend ho hr hf| pub n ho hr=>intro S β h;exact h.pub ho hr| fresh n s hf=>intro S β h;exact⟨S,kY β n none,h.fresh hf⟩| drop n=>intro S β h;exact⟨S,β,h.drop n⟩| adoptT n s t hf ht =>
  intro S β h;refine⟨S,kY β n none,(h.fresh hf).setT ?_⟩;have:=h.tmp t;obtain⟨⟨av,hv⟩,_⟩:=eY ht this;rw[hv];exact .osl0 y8 rfl rfl
 |adoptB n s m j hf ho hj=>intro S β h;exact h.adopt (λβ' h=>.inl ⟨h,rfl⟩) (λ_ hi=>hi) hf ho hj| adoptM n s m j hf ho hj=>intro S β h;exact h.adopt (λβ' h=>⟨.inl ⟨h,rfl,rfl⟩,λi j b hi=>absurd hi.1 (by simp),λi b hi=>absurd hi.1 (by simp)⟩) (λ_ hi=>absurd hi.1 (by simp)) hf ho (by rw[wM,hj];rfl)| focus n k i ho hf hi=>intro S β h;exact⟨S,_,h.focus ho hf hi⟩| unfocus n k hs1 hs2 ho hk hne h0=>intro S β h;exact⟨S,_,h.unfocus ho hk hne h0⟩| trans _ _ ih1 ih2=>grind
theorem Fy (h:Sim w0 S0 K0 N τ objs a w S β){pv:PV}{v:Value}{K:PV->Prop}(hl:ldV objs pv K)(hr:Rep w S β v pv):∃ pv',K pv'/\Rep w S β v pv':=by
 unfold ldV at hl;cases hn:lnt objs pv with
 |false=>grind| true =>
  rw[hn] at hl;rcases hl.h with hK|⟨n,s,els,h1,h2,h3⟩;{grind};{have hat:=h.obj.at_ n _ (xH h1);exact⟨_,h3,Bb (S':=S) (o:=.lent s els) ⟨λ_ _ x=>x,λb hb i hi=>hat.2 b hb i hi,hat,rfl⟩ hr h2⟩}
theorem Zn {o:Oper}{K:PV->Prop}{Km:Act->World->Prop}{Q:Exit->Act->World->Prop}(h:Sim w0 S0 K0 N τ objs a w S β)(hs:sop objs o.op (ev τ) K) (hk:∀ pv w' S' v,K pv->Leads w S qJ w' S'->Rep w' S' β v pv->Km (a.put o.dst v) w'):o.wp Pg a w Km Q:=by
 have he:∀ x,Rep w S β (a.eval x) (ev τ x):=λx=>h.eval x;have hrefl:Leads w S qJ w S:=Leads.refl h.ld.bnd;have fin:∀ pv v,(execOp a.eval o).run Pg w=.ok (.value v) w->K pv->Rep w S β v pv->o.wp Pg a w Km Q:=λpv v h1 h2 h3=>jG h1 (hk pv w S v h2 hrefl h3);unfold sop at hs;split at hs;{rename_i x hop;exact fin _ _ (by simp[execOp,hop]) hs (he x)};{rename_i x hop;exact fin _ _ (by simp[execOp,hop]) hs (he x)}
 ·rename_i c x y hop;obtain⟨b,hb,ht,hf⟩:=ZR (he c) hs;cases b with
  |true=>exact fin _ _ (by simp[execOp,hop,hb,asBool]) (ht rfl) (he x)| false=>exact fin _ _ (by simp[execOp,hop,hb,asBool]) (hf rfl) (he y)
 {rename_i t parts hop;split at hs;{rename_i n fs z ht;split at hs;{rename_i cs hf;obtain⟨vs,h1,h2⟩:=UE ht he hf;exact fin _ _ (by simp[execOp,hop,h1]) hs (.agg h2.1 h2.2)};grind};{rename_i len n ag z ht;split at hs;{rename_i cs hf;obtain⟨vs,h1,h2⟩:=W7 ht he hf;exact fin _ _ (by simp[execOp,hop,h1]) hs (.agg h2.1 h2.2)};grind};grind}
 ·rename_i t len parts hop;split at hs
  ·rename_i n b z ht;split at hs
   ·rename_i els hf;cases hc:(nle (len*n) 1000&&m5 els) with
    |false=>grind| true =>
     simp only[hc,cond_true] at hs;simp only[xA] at hc;obtain⟨w',S',v,h1,h2,h3⟩:=Xs ht h.ld.bnd he hf (mP hc.1) hc.2;exact jG (by simp[execOp,hop,h1]) (hk _ _ _ _ hs h2 h3)
   grind
  grind
 ·rename_i t x hop;split at hs;{rename_i cs off hx;have hr:=he x;rw[hx] at hr;obtain⟨b,o',vals,hS,hv,hf,hc,hrr⟩:=sE hr;obtain⟨pv,val,h1,h2,h3⟩:=aR (w:=w) (S:=S) (β:=β) hs vals hc (UG hf hrr);exact fin pv val (by simp[execOp,hop,hv,h2]) h1 h3};{rename_i n off hx;split at hs;{rename_i cs ho;have hr:=he x;rw[hx] at hr;obtain⟨b,hβ,hv⟩:=jH hr;obtain⟨b',vs,T,hβ',hb,hsz,hrr⟩:=UQ h ho;rw[hβ] at hβ';cases hβ';obtain⟨pv,val,h1,h2,h3⟩:=aR (w:=w) (S:=S) (β:=β) (b:=b) (o:=0) hs (λj=>vs.getD j undef) (λj hj=>by rw[wQ];grind [gQ]) hrr;obtain⟨pv',h1',h3'⟩:=Fy h h1 h3;exact fin pv' val (by rw[wQ] at h2;simp[execOp,hop,hv,h2]) h1' h3'};grind}
  ·rename_i n s i off hx;split at hs
   ·rename_i s' els ho;cases hss:nqb s s' with
    |false=>grind| true =>
     (simp only[hss,cond_true] at hs;have:=y5 hss;subst this;obtain⟨c,hcf,hcl,hck,hK⟩:=hs.h;have hr:=he x;rw[hx] at hr;obtain⟨b,hβ,hv⟩:=jA hr;have hlt:i ()<(els ()).length:=by grind);rcases h.obj.at_ n _ (xH ho) with⟨hn,he0⟩|⟨b',vs,T,hβ',hb,hsz,hwid,hrr⟩
     {grind}
     ·(rw[hβ] at hβ';cases hβ';have hg:(els ()).getD (i ()) []=y7 c:=by grind);obtain⟨pv,val,h1,h2,h3⟩:=aR (w:=w) (S:=S) (β:=β) (b:=b) (o:=i ()*s) hK (λj=>vs.getD (i ()*s+j) undef)
       (λj hj=>gQ hb _ (by
        have:i ()*s+s<=(els ()).length*s:=by
         calc i ()*s+s=(i ()+1)*s:=by grind
          _<=_:=uR _ hlt
        omega))
       (λj hj=>by have:=(hrr (i ()) j hlt oM).1;rw[hg,fS] at this;exact .c (xS rfl hcf j) this)
      exact fin pv val (by simp[execOp,hop,hv,h2]) h1 h3
   ·rename_i sm rows hs0 ho;cases hss:(nqb s 1&&nqb off 0) with
    |false=>grind| true =>
     simp only[hss] at hs;simp only[xA] at hss;have e1:=y5 hss.1;have e2:=y5 hss.2;subst e1 e2;obtain⟨v0,k0,hk0,hki,hK⟩:=hs.h;have hr:=he x;rw[hx] at hr;obtain⟨b,hβ,hv⟩:=jA hr;rcases (show MatAt w S β n sm rows hs0 from h.obj.at_ n _ (xH ho)).pl with⟨_,_,hn⟩|⟨b',vs,T,hβ',hb,hsz,hhs,_⟩;{grind}
     ·rw[hβ] at hβ';cases hβ';obtain⟨hlt,hrp⟩:=hhs v0 k0 hk0;obtain⟨pv,val,h1,h2,h3⟩:=aR (w:=w) (S:=S) (β:=β) (b:=b) (o:=i ()) hK (λj=>vs.getD (i ()+j) undef)
       (λj hj=>gQ hb _ (by grind))
       (λj hj=>by grind)
      exact fin pv val (by rw[tM] at h2;simp[execOp,hop,hv,h2]) h1 h3
   ·rename_i cs ho;cases hss:(nqb s 1&&nqb off 0) with
    |false=>grind| true =>
     simp only[hss] at hs;simp only[xA] at hss;have e1:=y5 hss.1;have e2:=y5 hss.2;subst e1 e2;obtain⟨hi,hK⟩:=hs.h;have hr:=he x;rw[hx] at hr;obtain⟨b,hβ,hv⟩:=jA hr;obtain⟨b',vs,T,hβ',hb,hsz,hcs⟩:=h.obj.at_ n _ (xH ho);rw[hβ] at hβ';cases hβ';obtain⟨pv,val,h1,h2,h3⟩:=aR (w:=w) (S:=S) (β:=β) (b:=b) (o:=0) hK (λj=>vs.getD j undef) (λj hj=>by rw[wQ];grind [gQ]) hcs;exact fin pv val (by simp[execOp,hop,hv] at h2 ⊢;simp[h2]) h1 h3
   grind
  grind
 {rename_i bop t x y yt hop;obtain⟨pv,val,h1,h2,h3⟩:=Hu (ox:=x) (oy:=y) (λc e=>by rw[e];rfl) (he x) (he y) hs;exact fin pv val (by simp only[execOp,hop,Sem.run_bind] at h2 ⊢;simp[h2]) h1 h3};{rename_i op t x hop;have hr:=he x;split at hs;{rename_i hx;rw[hx] at hr;exact fin _ (.bool false) (by simp[execOp,hop,Op.unary,Zv hr]) hs (.c rfl (.bool false))};{rename_i hx;rw[hx] at hr;exact fin _ (.bool true) (by simp[execOp,hop,Op.unary,Zw hr]) hs (.c rfl (.bool true))};{rename_i b hx;rw[hx] at hr;exact fin _ (.bool (!(b ()))) (by simp[execOp,hop,Op.unary,sG hr]) hs (mJ _)};{rename_i b hx;rw[hx] at hr;exact fin _ (.bool (b ())) (by simp[execOp,hop,Op.unary,aQ hr]) hs (rZ _)};{rename_i k n hx;rw[hx] at hr;obtain⟨pv,h1,h2⟩:=n9 (w:=w) (S:=S) (β:=β) hs;exact fin pv _ (by simp[execOp,hop,Op.unary,vO hr,Op.intArith]) h1 h2};grind}
 ·rename_i src dst x hop;cases hno:(ty src).isNo with
  |true=>grind| false =>
   simp only[hno,cond_false] at hs;split at hs;{rename_i k z k' n ht hx;have hr:=he x;rw[hx] at hr;obtain⟨d,hd⟩:=RF hno;obtain⟨i,d',zv,_,h2,_,_,_,_,_,h8,_⟩:=Vr ht;have h8:=h8 k z rfl;subst h8;refine fin _ _ ?_ hs (sD k (λ_=>nx k (n ())));cases d <;> simp[execOp,hop,convert,run_underlying hd,run_underlying h2,vO hr,Conv.intToInt,nx]};grind
 {rename_i t x i hop;split at hs;{rename_i n fs z ht;split at hs;{rename_i off sz ag hi;have hr:=he x;split at hs;{rename_i m o' hx;rw[hx] at hr;obtain⟨b,hβ,hv⟩:=jH hr;exact fin _ _ (by simp[execOp,hop,hv,bH ht hi]) hs (.ptr hβ)};{rename_i m s j o' hx;rw[hx] at hr;obtain⟨b,hβ,hv⟩:=jA hr;exact fin _ (.pointer (some ⟨b,j ()*s+(o'+off),none⟩)) (by simp[execOp,hop,hv,bH ht hi,m9]) hs (.aptr hβ)};{rename_i cs o' hx;rw[hx] at hr;obtain⟨b,oo,vals,hS,hv,hf,hc,hrr⟩:=sE hr;exact fin _ (.pointer (some ⟨b,oo+(o'+off),none⟩)) (by simp[execOp,hop,hv,bH ht hi,m9]) hs (.dptr vals hS hf hc hrr)};grind};grind};grind}
 ·rename_i t x i hop;split at hs
  ·rename_i n fs z ht;split at hs
   ·rename_i off sz ag hi;obtain⟨inf,fields,zs,h1,h2,h3,h4,h5,h6,h7,h8⟩:=Y5 ht;rw[h6,jJ] at hi;obtain⟨f,hf,hfe⟩:=Yr.1 hi;cases ag with
    |false =>
     simp only at hs;simp only[GQ] at hfe;obtain⟨q1,q2,q3⟩:=hfe;split at hs
     ·rename_i cs hx;have hr:=he x;rw[hx] at hr;cases hle:(nqb sz 1&&nlt off cs.length) with
      |false=>grind| true =>
       (rw[hle] at hs;simp only[xA] at hle;have hs1:=y5 hle.1;have hlt:off<cs.length:=by simp_all);obtain⟨vs,hv,hl,hrr⟩:=qZ hr
       (obtain⟨j,hj,hjs⟩:=qM (t:=f.type) (h8 f (yE hf));obtain⟨fields',hu',hU⟩:=RG ht;rw[h2] at hu';cases hu';obtain⟨d,hd⟩:=Jv.1 (hU f (yE hf));have hd':=rW hd w;rw[q3] at hd';have hfa:fields[i]?=some f:=by grind);have hlv:off<vs.size:=by omega
       (refine fin _ (vs.getD off undef) ?_ hs (hrr off oM);have hj1:j.size=1:=by omega);simp[execOp,hop,hv,Instr.field,run_underlying h2,hfa,asAgg,part,hd',vZ hj,hj1,q1,hlv]
     grind
    |true =>
     simp only at hs;simp only[GQ] at hfe;obtain⟨q1,q2,q3⟩:=hfe;split at hs
     ·rename_i cs hx;have hr:=he x;rw[hx] at hr;cases hle:nle (off+sz) cs.length with
      |false=>grind| true =>
       (simp only[hle] at hs;have hle:off+sz<=cs.length:=by simp_all);obtain⟨vs,hv,hl,hrr⟩:=qZ hr
       obtain⟨j,hj,hjs⟩:=qM (t:=f.type) (h8 f (yE hf));obtain⟨d,hd⟩:∃ d,Pg.underlying f.type=some d:=by unfold j8 at q3;grind
       (have hd':=rW hd w;rw[q3] at hd';have hfa:fields[i]?=some f:=by grind);refine fin _ (.agg (vs.extract off (off+sz))) ?_ hs (.agg ?_ ?_)
       {simp[execOp,hop,hv,Instr.field,run_underlying h2,hfa,asAgg,part,hd',vZ hj,hjs,q1,q2]};{grind}
       ·(intro k hk;have hk':k<sz:=by grind);have:=hrr (off+k) oM
        (have e1:(vs.extract off (off+sz)).getD k undef=vs.getD (off+k) undef:=by simp only[GP];grind);grind
     grind
   grind
  grind
 ·rename_i t x i hop;split at hs;{rename_i n b z els k kv ht hx hi;obtain⟨inf,el,j,zv,h1,h2,h3,h4,h5,h6,h7,h8,h9,h10,h11,h12⟩:=uK ht;have hr:=he x;have hri:=he i;rw[hx] at hr;rw[hi] at hri;obtain⟨hk0,c,hcf,hcl,hck,hK⟩:=hs.h;obtain⟨bb,oo,cap,hv,hlt,hrep⟩:=Sz (β:=β) (pU hr) h10 hcf hcl hck;refine fin _ _ ?_ hK hrep;have:=rE (w:=w) h4 h5 bb oo (els ()).length cap k (kv ()) hk0 oM;rw[h7] at this;simp[execOp,hop,hv,vO hri,this]}
  ·rename_i n b z m s o' len k kv ht hx hi;obtain⟨inf,el,j,zv,h1,h2,h3,h4,h5,h6,h7,h8,h9,h10,h11,h12⟩:=uK ht;have hr:=he x;have hri:=he i;rw[hx] at hr;rw[hi] at hri;cases hss:nqb n s with
   |false=>grind| true =>
    simp only[hss,cond_true] at hs;have:=y5 hss;subst this;obtain⟨hrg,hK⟩:=hs;rcases uT hr with⟨_,_,hl0,_⟩|⟨bb,cap,vs,T,hβ,hlc,hb,hsz,hv⟩;{have:=hrg.lo;have:=hrg.hi;omega};{refine fin _ _ ?_ hK (.aptr hβ);have:=rE (w:=w) h4 h5 bb (o' ()*n) (len ()) cap k (kv ()) hrg.lo hrg.hi;rw[h7] at this;simp[execOp,hop,hv,vO hri,this,jK]}
  {rename_i len n ag z m o' k kv ht hx hi;obtain⟨inf,el,zs,h1,h2,h3,h4,h5,h6,h7,h8,h8',h8'',h9⟩:=iB ht;have hr:=he x;have hri:=he i;rw[hx] at hr;rw[hi] at hri;obtain⟨jj,hj1,hj2,hK⟩:=hs.h;obtain⟨b,hβ,hv⟩:=jH hr;obtain⟨j,hj,hjs⟩:=qM (t:=el) oM;refine fin _ _ ?_ hK (.ptr hβ);have:=eT (w:=w) h2 hj b o' k (kv ()) oM oM;rw[hjs,h6,hj1] at this;simp[execOp,hop,hv,vO hri,hj1,this]};grind
 ·rename_i t x i hop;split at hs
  ·rename_i len z cs k kv ht hx hi;obtain⟨inf,el,zs,h1,h2,h3,h4,h5,h6,h7,h8,h8',h8'',h9⟩:=iB ht;have hr:=he x;have hri:=he i;rw[hx] at hr;rw[hi] at hri;cases hll:nqb len cs.length with
   |false=>grind| true =>
    (simp only[hll,cond_true] at hs;have hll:=y5 hll;obtain⟨jj,hj1,hj2,hK⟩:=hs.h;obtain⟨vs,hv,hl,hrr⟩:=qZ hr;obtain⟨j,hj,hjs⟩:=qM (t:=el) oM;have hs1:j.size=1:=by omega);obtain⟨d,hd⟩:=Jv.1 h8''
    (have hlt:jj<vs.size:=by omega);refine fin _ (vs.getD jj undef) ?_ hK (hrr jj oM)
    have hd':=rW hd w;rw[h7] at hd';simp[execOp,hop,hv,vO hri,hj1,Instr.index,asIntOf,run_underlying h2,hj2,vZ hj,hs1,part,hd',hlt]
  grind
 ·rename_i x i hop;have hr:=he x;split at hs
  ·rename_i vs hx;rw[hx] at hr;cases hlt:nlt i vs.length with
   |false=>grind| true =>
    (simp only[hlt,cond_true] at hs;have hlt:i<vs.length:=by simp_all);obtain⟨us,hv,hl,hrr⟩:=dF hr
    (have hlu:i<us.size:=by omega);exact fin _ (us.getD i undef) (by simp[execOp,hop,hv,Instr.extract,hlu]) hs (hrr i hlt)
  grind
 ·rename_i t x lo hi hop;have hr:=he x;split at hs;{rename_i n b z els ht hx;obtain⟨inf,el,j,zv,h1,h2,h3,h4,h5,h6,h7,h8,h9,h10,h11,h12⟩:=uK ht;rw[hx] at hr;split at hs;{rename_i l hh hl hhh;obtain⟨hok,hw,hK⟩:=hs;have hl':=cJ he hl;have hh':=cJ he hhh;have:=hok.lo;have:=hok.mid;have:=hok.hi;obtain⟨aa,cap,hv,hcap,hrep⟩:=JL (pU hr) hw.h (l:=(l ()).toNat) (h:=(hh ()).toNat) oM oM;refine fin _ _ ?_ hK (.c rfl hrep);have:=rN (w:=w) (ρ:=a.eval) (a:=aa) h4 h5 hcap hok.lo hok.mid hok.hi (hl'.imp (λh=>⟨h.1,by rw[h.2]⟩) id) (hh'.imp (λh=>⟨h.1,by rw[h.2]⟩) id);rw[h7] at this;simp only[execOp,hop,hv,Sem.run_bind,this,Result.andThen_ok,Sem.run_pure]};grind}
  ·rename_i n b z m s o' len ht hx;obtain⟨inf,el,j,zv,h1,h2,h3,h4,h5,h6,h7,h8,h9,h10,h11,h12⟩:=uK ht;rw[hx] at hr;split at hs
   ·rename_i l hh hl hhh;cases hss:nqb n s with
    |false=>grind| true =>
     simp only[hss,cond_true] at hs;have:=y5 hss;subst this;obtain⟨hok,⟨hT⟩⟩:=hs;have hl':=cJ he hl;have hh':=cJ he hhh;have:=hok.lo;have:=hok.mid;have:=hok.hi;have key:∃ aa cc v,a.eval x=.slice aa (len ()) cc/\len ()<=cc/\(∀ aa',(l ()).toNat=cc->aa'=aa->Rep w S β (.slice aa' ((hh ()).toNat-(l ()).toNat) (cc-(l ()).toNat)) v)/\(((l ()).toNat≠cc)->Rep w S β (.slice (aa.map (·.add ((l ()).toNat*n))) ((hh ()).toNat-(l ()).toNat) (cc-(l ()).toNat)) v)/\K v:=by
      rcases hT with⟨hne,hK⟩|⟨heq,hK⟩
      ·rcases uT hr with⟨hβ,ho0,hl0,av,hv⟩|⟨bb,cap,vs,T,hβ,hlc,hb,hsz,hv⟩
       ·(have e1:(l ()).toNat=0:=by omega);have e2:(hh ()).toNat=0:=by omega
        refine⟨av,0,_,by rw[hv,hl0],by omega,λaa' _ e=>?_,λh=>absurd e1 h,hK⟩;rw[e1,e2];exact .osl0 hβ (by grind) (by grind)
       ·refine⟨some ⟨bb,o' ()*n,none⟩,cap,_,hv,hlc,λaa' hc e=>?_,λhc=>?_,hK⟩
        ·(have e1:(l ()).toNat=0:=by omega);subst e
         have:=Rep.osl (S:=S) (n:=m) (s:=n) (cap:=cap-(l ()).toNat) (o:=λ_=>o' ()+(l ()).toNat) (len:=λ_=>(hh ()).toNat-(l ()).toNat) hβ oM hb (by grind);simpa[e1] using this
        {have:=Rep.osl (S:=S) (n:=m) (s:=n) (cap:=cap-(l ()).toNat) (o:=λ_=>o' ()+(l ()).toNat) (len:=λ_=>(hh ()).toNat-(l ()).toNat) hβ oM hb (by grind);simpa only [Option.map_some,jT,<-jK] using this}
      ·(have e0:(hh ()).toNat-(l ()).toNat=0:=by omega);rw[e0]
       rcases uT hr with⟨hβ,ho0,hl0,av,hv⟩|⟨bb,cap,vs,T,hβ,hlc,hb,hsz,hv⟩;{exact⟨av,0,_,by rw[hv,hl0],by omega,λ_ _ _=>.c rfl (.sl0 _ _),λ_=>.c rfl (.sl0 _ _),hK⟩};{exact⟨some ⟨bb,o' ()*n,none⟩,cap,_,hv,hlc,λ_ _ _=>.c rfl (.sl0 _ _),λ_=>.c rfl (.sl0 _ _),hK⟩}
     obtain⟨aa,cc,v,hv,hlc,r1,r2,hK⟩:=key;have:=rN (w:=w) (ρ:=a.eval) (a:=aa) h4 h5 hlc hok.lo hok.mid hok.hi (hl'.imp (λh=>⟨h.1,by rw[h.2]⟩) id) (hh'.imp (λh=>⟨h.1,by rw[h.2]⟩) id);rw[h7] at this;by_cases hc:cc=(l ()).toNat;{rw[if_pos hc] at this;exact fin _ _ (by simp only[execOp,hop,hv,Sem.run_bind,this,Result.andThen_ok,Sem.run_pure]) hK (r1 _ hc.symm rfl)};{rw[if_neg hc] at this;exact fin _ _ (by simp only[execOp,hop,hv,Sem.run_bind,this,Result.andThen_ok,Sem.run_pure]) hK (r2 (λe=>hc e.symm))}
   grind
  ·rename_i n b z ht hx;obtain⟨inf,el,j,zv,h1,h2,h3,h4,h5,h6,h7,h8,h9,h10,h11,h12⟩:=uK ht;rw[hx] at hr;have hv:=dG hr;split at hs
   ·(rename_i l hh hl hhh;obtain⟨hok,hK⟩:=hs;have hl':=cJ he hl;have hh':=cJ he hhh;have:=hok.lo;have:=hok.mid;have:=hok.hi;refine fin _ _ ?_ hK .nil;have:=rN (w:=w) (ρ:=a.eval) (a:=none) h4 h5 (yQ 0) hok.lo hok.mid hok.hi (hl'.imp (λh=>⟨h.1,by rw[h.2]⟩) id) (hh'.imp (λh=>⟨h.1,by omega⟩) id);have e1:(l ()).toNat=0:=by omega);have e2:(hh ()).toNat=0:=by omega
    rw[e1,e2,if_pos rfl] at this;simp only[execOp,hop,hv,Sem.run_bind,this,Result.andThen_ok,Sem.run_pure]
   grind
  grind
 ·rename_i t x y z hop;have hr:=he x;split at hs
  ·rename_i n b zz m s o' len ky h kz k ht hx hy hz;obtain⟨inf,el,j,zv,h1,h2,h3,h4,h5,h6,h7,h8,h9,h10,h11,h12⟩:=uK ht;rw[hx] at hr;have hyv:=he y;rw[hy] at hyv;have hyv:=vO hyv;have hzv:=he z;rw[hz] at hzv;have hzv:=vO hzv;cases hss:nqb n s with
   |false=>grind| true =>
    simp only[hss] at hs;have:=y5 hss;subst this;obtain⟨⟨g1,g2,g3⟩,hK⟩:=hs;rcases uT hr with⟨hβ,ho0,hl0,av,hv⟩|⟨bb,cap,vs,T,hβ,hlc,hb,hsz,hv⟩
    ·(have:=lO (w:=w) (ρ:=a.eval) (a:=av) (len:=0) (cap:=0) h4 h5 g1 g2 oM hyv hzv;have e1:(h ()).toNat=0:=by omega);have e2:(k ()).toNat=0:=by omega
     rw[e1,e2] at this;exact fin _ (.slice av 0 0) (by simp only[execOp,hop,hv,Sem.run_bind,this,Result.andThen_ok,Sem.run_pure]) hK (.osl0 hβ ho0 e1)
    {have:=lO (w:=w) (ρ:=a.eval) (a:=some ⟨bb,o' ()*n,none⟩) (len:=len ()) (cap:=cap) h4 h5 g1 g2 oM hyv hzv;refine fin _ (.slice (some ⟨bb,o' ()*n,none⟩) (h ()).toNat (k ()).toNat) (by simp only[execOp,hop,hv,Sem.run_bind,this,Result.andThen_ok,Sem.run_pure]) hK ?_;exact Rep.osl (S:=S) (n:=m) (s:=n) (cap:=(k ()).toNat) (o:=o') (len:=λ_=>(h ()).toNat) hβ (by show (h ()).toNat<=(k ()).toNat;omega) hb (vF (uR n oM) hsz)}
  grind
 {rename_i x hop;have hr:=he x;split at hs;{rename_i n o' hx;rw[hx] at hr;obtain⟨b,hβ,hv⟩:=jH hr;exact fin _ _ (by simp[execOp,hop,hv]) hs (.ptr hβ)};{rename_i n s i o' hx;rw[hx] at hr;obtain⟨b,hβ,hv⟩:=jA hr;exact fin _ _ (by simp[execOp,hop,hv]) hs (.aptr hβ)};{rename_i c o' hx;rw[hx] at hr;obtain⟨b,oo,vals,hS,hv,hf,hc,hrr⟩:=sE hr;exact fin _ _ (by simp[execOp,hop,hv]) hs (.dptr vals hS hf hc hrr)};grind}
 ·(rename_i f first caps hop);split at hs
  ·(rename_i hfe;have hf0:first=#[]:=by grind);have hc:=YP he caps.toList
   refine fin _ (.func (.func f) #[] (caps.toList.map a.eval).toArray) ?_ hs (.fn hc.1 hc.2);have:caps.map a.eval=(caps.toList.map a.eval).toArray:=Array.ext' (by simp);simp[execOp,hop,Instr.makeFunc,hf0,<-this]
  grind
 ·rename_i c hop;split at hs
  ·rename_i hcl;split at hs
   ·(rename_i x t hx ht;have hr:=he x;have ha:c.args=#[x]:=by grind);have hta:c.argTypes=#[t]:=by grind
    unfold Te at hs;split at hs
    ·rename_i n b z hty;obtain⟨inf,el,j,zv,h1,h2,h3,h4,_⟩:=uK hty;split at hs
     ·rename_i els hxe;rw[hxe] at hr;have:=pU hr;obtain⟨aa,cap,hv,_⟩:∃ aa cap,a.eval x=.slice aa (els ()).length cap/\True:=by
       rcases bB this with⟨e0,aa,cap,hv⟩|⟨bb,oo,cap,s,vals,_,_,_,_,_,_,_,hv⟩
       all_goals grind
      exact fin _ (.int .i64 ((els ()).length:Nat)) (by simp[execOp,hop,resolve,hcl,invoke,Go.builtin,ha,hta,hv,Builtin.len_,run_underlying h4,goInt]) hs (sD .i64 (λ_=>(((els ()).length:Nat):Int)))
     ·rename_i m s o' l hxe;rw[hxe] at hr;obtain⟨aa,cap,hv⟩:∃ aa cap,a.eval x=.slice aa (l ()) cap:=by
       rcases uT hr with⟨_,_,hl0,aa,hv⟩|⟨bb,cap,vs,T,hβ,hlc,hb,hsz,hv⟩
       all_goals grind
      exact fin _ (.int .i64 (l ():Nat)) (by simp[execOp,hop,resolve,hcl,invoke,Go.builtin,ha,hta,hv,Builtin.len_,run_underlying h4,goInt]) hs (sD .i64 (λ_=>((l ():Nat):Int)))
     {rename_i hxe;rw[hxe] at hr;have hv:=dG hr;exact fin _ (.int .i64 0) (by simp[execOp,hop,resolve,hcl,invoke,Go.builtin,ha,hta,hv,Builtin.len_,run_underlying h4,goInt]) hs (sD .i64 (λ_=>0))};{rename_i hxe;rw[hxe] at hr;obtain⟨aa,hv⟩:=eZ hr;exact fin _ (.int .i64 0) (by simp[execOp,hop,resolve,hcl,invoke,Go.builtin,ha,hta,hv,Builtin.len_,run_underlying h4,goInt]) hs (sD .i64 (λ_=>0))};grind
    grind
   grind
  ·rename_i hcl;split at hs
   ·(rename_i x y hx;have ha:c.args=#[x,y]:=by grind);split at hs
    {rename_i k b hxe hye;have hr:=he x;have hr2:=he y;rw[hxe] at hr;rw[hye] at hr2;refine fin _ (.int .i64 (imax (k ()) (b ()))) ?_ hs (sD .i64 (λ_=>imax (k ()) (b ())));simp[execOp,hop,resolve,hcl,invoke,Go.builtin,ha,vO hr,vO hr2,Builtin.max_,Builtin.max2,imax]};grind
   grind
  ·rename_i hcl;split at hs
   ·(rename_i x y hx;have ha:c.args=#[x,y]:=by grind);split at hs
    {rename_i k b hxe hye;have hr:=he x;have hr2:=he y;rw[hxe] at hr;rw[hye] at hr2;refine fin _ (.int .i64 (imin (k ()) (b ()))) ?_ hs (sD .i64 (λ_=>imin (k ()) (b ())));simp[execOp,hop,resolve,hcl,invoke,Go.builtin,ha,vO hr,vO hr2,Builtin.min_,Builtin.min2,imin]};grind
   grind
  {rename_i f hcl;split at hs;{rename_i g caps hf;exact m7 hop hcl h hf (hs.h.resolve_right λq=>by cases q.1) hk};grind};grind
 grind
end
end Go.Proofs.YtboocdbmnfjomaaGreat
