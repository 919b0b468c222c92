/- A part of the proof: PmJ. -/
import Derived.Test.YtaeaffgjdcigoaaGreatD06
set_option linter.all false
namespace Go.Proofs.YtaeaffgjdcigoaaGreat
open Go
section
variable {w0:World} {S0:Nat->Nat->Prop} {K0:Nat->Prop} {N:Cx} {τ:Nat->PV} {objs:List (Nat×Obj')} {a:Act} {w:World} {S S':Nat->Nat->Prop} {β:Bm}
theorem Evo.refl:Evo S w w:=⟨λ_ _ _=>rfl,λb vs T h=>⟨vs,h,rfl⟩⟩
theorem Rep.mono {v pv}(h:Rep w S β v pv)(hS:∀ b i,S b i->S' b i):Rep w S' β v pv:=h.evo Evo.refl hS
theorem kH (f:PV->PV)(hf:f .any=.any):∀ (l:List (Nat×PV)) (t:Nat),zF (uE f l) t=f (zF l t)
 |[],t=>by simp[uE,zF,hf]| (u,v)::r,t=>by
  simp only[uE,zF];cases nqb u t with
  |true=>rfl| false=>exact kH f hf r t
theorem zM (f:PV->PV):∀ (l:List PV),(w8 f l).length=l.length
 |[]=>rfl| v::r=>by simp[w8,zM f r]
theorem yI (f:PV->PV)(hf:f .any=.any):∀ (l:List PV) (j:Nat),(w8 f l).getD j .any=f (l.getD j .any)
 |[],j=>by simp[w8,hf]| v::r,0=>by simp[w8]| v::r,j+1=>by simpa[w8] using yI f hf r j
theorem gR {f:PV->Prop}(hf:f .any):∀ {cs:List PV},WU f cs->∀ j,f (cs.getD j .any)
 |[],_,j=>by grind| c::cs,h,0=>by simpa using h.1| c::cs,h,j+1=>by simpa using gR hf h.2 j
def szO:Obj'->Nat
 |.box cs=>cs.length| .arr s els=>(els ()).length*s| .log s els=>(els ()).length*s| .lent s els=>(els ()).length*s| .mat _ _ _=>0| .mp _ _=>0
theorem eE {n s:Nat}{els:Unit->List (List D)}{o:Obj'}(hr:WJ o=some (s,els))(h:ObjAt w S β n o):RowAt w S β n s els:=by
 cases o with
 |box cs=>cases hr
 |arr s' e=>cases hr;exact h
 |log s' e=>cases hr;exact h
 |lent s' e=>cases hr;exact h.1
 |mat s' r q=>cases hr
 |mp t k=>cases hr
theorem K6 {s:Nat}{els:Unit->List (List D)}{o:Obj'}(hr:WJ o=some (s,els)):szO o=(els ()).length*s:=by
 cases o with
 |box cs=>cases hr
 |arr s' e=>cases hr;rfl
 |log s' e=>cases hr;rfl
 |lent s' e=>cases hr;rfl
 |mat s' r q=>cases hr
 |mp t k=>cases hr
structure FrzAt (w:World) (S S':Nat->Nat->Prop) (β:Bm) (n:Nat) (o:Obj'):Prop where
 sub:∀ b i,S b i->S' b i
 new:∀ b,β n=some b->∀ i,i<szO o->S' b i
 at_:ObjAt w S β n o
 cl:Yq o=true
theorem Ce {n:Nat}{o:Obj'}(F:FrzAt w S S' β n o){v pv}(h:Rep w S β v pv)(hf:fo0 n o pv):Rep w S' β v (fz0 n o pv):=by
 have hm:=h.mono F.sub;cases pv with
 |agg cs=>exact xQ _| tup cs=>exact xQ _| fn f cs=>exact xQ _| ptr m off =>
  simp only[fz0];cases hb:nqb m n with
  |false=>exact hm| true =>
   have:=xE hb;subst this;simp only[cond_true];cases o with
   |arr s els=>exact xQ _| log s els=>exact xQ _| lent s els=>exact xQ _| mat s r q=>exact xQ _| mp t k=>exact xQ _| box cs =>
    obtain⟨b,hβ,rfl⟩:=qW h;obtain⟨b',vs,T,hβ',hw,hsz,hr⟩:=F.at_;rw[hβ] at hβ';cases hβ';have hcl:=F.cl;simp only[Yq] at hcl;have hfl:yT qS (w8 XT cs)=true:=by
     have:∀ (l:List PV),yT lQ l=true->yT qS (w8 XT l)=true:=by
      intro l;induction l with
      |nil=>intro _;rfl
      |cons c l ih =>
       intro h;simp only[yT,yZ,w8] at h ⊢;exact⟨by cases c <;> simp_all [lQ,XT,qS],ih h.2⟩
     grind
    show Rep w S' β _ (.dptr (w8 XT cs) off)
    suffices key:Rep w S' β (.pointer (some ⟨b,0+off,none⟩)) (.dptr (w8 XT cs) off) by grind
    refine Rep.dptr (o:=0) (λj=>vs.getD j undef) (λj hj=>F.new b hβ _ (by grind [zM,szO])) hfl (λj hj=>?_) (λj hj=>?_);{rw[zM] at hj;rw[gW];grind [dR]}
    ·(rw[zM] at hj;rw[yI _ rfl];have h1:=t5 ((hr j hj).mono F.sub) (xP rfl hcl j);have h2:∀ x:PV,toD (XT x)=toD x:=by intro x;cases x <;> rfl);grind
 |aptr m s i off =>
  simp only[fz0];cases hb:nqb m n with
  |false=>exact hm| true=>exact xQ _
 |mpv m=>simp only[fz0];cases nqb m n <;> first|exact hm|exact xQ _
 |osl m s i len =>
  simp only[fz0];cases hb:nqb m n with
  |false=>exact hm| true =>
   have:=xE hb;subst this;simp only[cond_true];cases hro:WJ o with
   |none=>exact xQ _| some p =>
    obtain⟨s',els⟩:=p;simp only[fo0,hb,hro] at hf;have hf:=hf.h;show Rep w S' β v ((match nqb s s' with|true=>PV.sl (λ_=>((els ()).drop (i ())).take (len ()))|false=>.any));cases hss:nqb s s' with
    |false=>exact xQ _| true =>
     have:=xE hss;subst this;simp only[cond_true];refine .c rfl ?_;simp only[toD];rcases j3 h with⟨hn,ho,hl,aa,rfl⟩|⟨b,cap,vs,T,hβ,hlc,hw,hsz,rfl⟩;{rw[hl];simpa using RepD.sl0 _ _}
     ·rcases eE hro F.at_ with⟨hn,_⟩|⟨b',vs',T',hβ',hw',hsz',hwid,hr⟩;{grind}
      ·(rw[hβ] at hβ';cases hβ';rw[hw] at hw';cases hw';have hlen:(((els ()).drop (i ())).take (len ())).length=len ():=by grind);by_cases h0:len ()=0
       {rw[h0];simpa using RepD.sl0 _ _}
       ·(have hg:∀ k,k<len ()->(((els ()).drop (i ())).take (len ())).getD k []=(els ()).getD (i ()+k) []:=by grind);have key:=RepD.sl (w:=w) (S:=S') (b:=b) (o:=i ()*s) (cap:=cap) (s:=s) (els:=((els ()).drop (i ())).take (len ())) (λk j=>vs.getD ((i ()+k)*s+j) undef)
         (by grind) oM
         (λk j hk hj=>F.new b hβ _ (by
          rw[hlen] at hk;rw[K6 hro];have:(i ()+k)*s+s<=(els ()).length*s:=by
           calc (i ()+k)*s+s=(i ()+k+1)*s:=by grind
            _<=_:=jB _ oM
          grind))
         (λe he=>hwid e (List.mem_of_mem_drop (bB he)))
         (λk j hk hj=>by
          rw[hlen] at hk;have hlt:(i ()+k)*s+j<vs.size:=by
           have:(i ()+k)*s+s<=(els ()).length*s:=by
            calc (i ()+k)*s+s=(i ()+k+1)*s:=by grind
             _<=_:=jB _ oM
           omega
          rw[<-dR hw _ hlt,jZ])
         (λk j hk hj=>by grind)
         (λk j hk hj=>by rw[hlen] at hk;rw[hg k hk];exact ((hr (i ()+k) j oM hj).1).evo (λ_ _ _=>rfl) F.sub)
        grind
 |int k x=>exact hm| tt=>exact hm| ff=>exact hm| bool b=>exact hm| nbool b=>exact hm| str x=>exact hm| nil=>exact hm| sl e=>exact hm| dptr cs o=>exact hm| nilf=>exact hm| nilp=>exact hm| emp=>exact hm| any=>exact hm
theorem Pw {n:Nat}{o:Obj'}(F:FrzAt w S S' β n o){v pv}(h:Rep w S β v pv)(hf:fo1 n o pv):Rep w S' β v (fz1 n o pv):=by
 cases pv with
 |agg cs =>
  obtain⟨vs,rfl,h1,h2⟩:=qJ h;exact .agg (by grind [zM]) λj hj=>by rw[zM] at hj;rw[yI _ rfl];exact Ce F (h2 j hj) (gR trivial hf j)
 |tup cs =>
  obtain⟨vs,rfl,h1,h2⟩:=gZ h;exact .tup (by grind [zM]) λj hj=>by rw[zM] at hj;rw[yI _ rfl];exact Ce F (h2 j hj) (gR trivial hf j)
 |fn f cs =>
  obtain⟨vs,rfl,h1,h2⟩:=j7 h;exact .fn (by grind [zM]) λj hj=>by rw[zM] at hj;rw[yI _ rfl];exact Ce F (h2 j hj) (gR trivial hf j)
 |_=>exact Ce F h hf
theorem Cd {n:Nat}{o:Obj'}(F:FrzAt w S S' β n o){v pv}(h:Rep w S β v pv)(hf:fo n o pv):Rep w S' β v (frz n o pv):=by
 cases pv with
 |agg cs =>
  obtain⟨vs,rfl,h1,h2⟩:=qJ h;exact .agg (by grind [zM]) λj hj=>by rw[zM] at hj;rw[yI _ rfl];exact Pw F (h2 j hj) (gR trivial hf j)
 |tup cs =>
  obtain⟨vs,rfl,h1,h2⟩:=gZ h;exact .tup (by grind [zM]) λj hj=>by rw[zM] at hj;rw[yI _ rfl];exact Pw F (h2 j hj) (gR trivial hf j)
 |fn f cs =>
  obtain⟨vs,rfl,h1,h2⟩:=j7 h;exact .fn (by grind [zM]) λj hj=>by rw[zM] at hj;rw[yI _ rfl];exact Pw F (h2 j hj) (gR trivial hf j)
 |_=>exact Ce F h hf
theorem vC (f:PV->PV):∀ {l:List (Nat×Obj')} {n:Nat} {o:Obj'},(n,o)∈xO f l->∃ o',(n,o')∈l/\o=xZ f o'
 |(m,o1)::r,n,o,h=>by
  (have e:xO f ((m,o1)::r)=(m,xZ f o1)::xO f r:=by cases o1 <;> rfl);rw[e,yM] at h
  rcases h with h|h;{grind};{obtain⟨o',h1,h2⟩:=vC f h;grind}
theorem gC (f:PV->PV):∀ (l:List (Nat×Obj')),(xO f l).map Prod.fst=l.map Prod.fst
 |[]=>rfl| (m,o1)::r=>by
  (have e:xO f ((m,o1)::r)=(m,xZ f o1)::xO f r:=by cases o1 <;> rfl);rw[e,jP,jP,gC f r]
theorem oA (f:PV->PV):∀ {hs:List (PV×(Unit->Nat))} {v:PV} {k:Unit->Nat},(v,k)∈aT f hs->∃ v',(v',k)∈hs/\v=f v'
 |(u,j)::r,v,k,h=>by simp only[aT,yM] at h;rcases h with h|h;{grind};{obtain⟨v',h1,h2⟩:=oA f h;grind}
theorem nI (f:PV->PV):∀ {hs:List (PV×(Unit->Nat))} {v:PV} {k:Unit->Nat},(v,k)∈hs->(f v,k)∈aT f hs
 |(u,j)::r,v,k,h=>by simp only[aT,yM] at h ⊢;rcases h with h|h;{grind};{exact .inr (nI f h)}
theorem kV (f:PV->PV)(o:Obj')(i:Nat):kX (xZ f o) i↔kX o i:=by
 cases o with
 |mat s rows hs =>
  show (_/\_)↔(_/\_);grind [nI,oA]
 |_=>exact Iff.rfl
theorem uV {f:PV->PV}{n:Nat}{o:Obj'}{b:Nat}(h:Own β n (xZ f o) b):Own β n o b:=by rcases h with h|⟨i,h1,h2⟩;{exact .inl h};{exact .inr ⟨i,(kV f o i).1 h1,h2⟩}
theorem DB {f:PV->PV}{n:Nat}{o:Obj'}{b:Nat}(h:Own β n o b):Own β n (xZ f o) b:=by rcases h with h|⟨i,h1,h2⟩;{exact .inl h};{exact .inr ⟨i,(kV f o i).2 h1,h2⟩}
theorem pA {f:PV->PV}{o:Obj'}{i:Nat}(h:jU o i):jU (xZ f o) i:=by cases o <;> exact h
theorem vD:∀ {l:List (Nat×Obj')} {n m:Nat} {o:Obj'},(m,o)∈uA l n->(m,o)∈l/\m≠n
 |(u,x)::r,n,m,o,h=>by
  simp only[uA] at h;cases hu:nqb u n with
  |true =>
   simp only[hu,cond_true] at h;obtain⟨h1,h2⟩:=vD h;grind
  |false =>
   simp only[hu,cond_false,yM] at h;rcases h with h|h;{cases h;exact⟨wB,λe=>by simp_all⟩};{obtain⟨h1,h2⟩:=vD h;grind}
theorem mN:∀ (l:List (Nat×Obj')) (n:Nat),((uA l n).map Prod.fst).Sublist (l.map Prod.fst)
 |[],n=>by simp[uA]| (u,x)::r,n=>by
  simp only[uA];cases nqb u n with
  |true=>exact (mN r n).trans (List.sublist_cons_self _ _)| false=>exact (mN r n).cons_cons _
theorem Kf {n:Nat}{o:Obj'}:∀ {l:List (Nat×PV)},foT n o l->∀ t,fo n o (zF l t)
 |[],_,t=>trivial| (u,v)::r,h,t=>by
  simp only[zF];cases nqb u t with
  |true=>exact h.1| false=>exact Kf h.2 t
theorem Kg {n u:Nat}{o o1:Obj'}{r:List (Nat×Obj')}(h:foO n o ((u,o1)::r)):foO n o r:=by cases o1 <;> first|exact h|exact h.2
theorem H4 {n:Nat}{o:Obj'}:∀ {l:List (Nat×Obj')},foO n o l->∀ {m cs},(m,Obj'.box cs)∈l->WU (fo n o) cs
 |(u,o1)::r,h,m,cs,hm=>by rcases yM.1 hm with hm|hm;{cases hm;exact h.1};{exact H4 (Kg h) hm}
theorem Kh {n:Nat}{o:Obj'}:∀ {l:List (Nat×Obj')},foO n o l->∀ {m s rows hs},(m,Obj'.mat s rows hs)∈l->foH n o hs
 |(u,o1)::r,h,m,s,rows,hs,hm=>by rcases yM.1 hm with hm|hm;{cases hm;exact h.1};{exact Kh (Kg h) hm}
theorem H5 {n:Nat}{o:Obj'}:∀ {hs:List (PV×(Unit->Nat))},foH n o hs->∀ {v k},(v,k)∈hs->fo n o v
 |(u,j)::r,h,v,k,hm=>by rcases yM.1 hm with hm|hm;{cases hm;exact h.1};{exact H5 h.2 hm}
theorem RowIn.mono {ob:Option Nat}{v:Value}{s:Nat}{els:List (List D)}(h:RowIn w S ob v s els)(hS:∀ b i,S b i->S' b i):RowIn w S' ob v s els:=by rcases h with h|⟨b,cap,us,T,h1,h2,h3,h4,h5,h6,h7⟩;{exact .inl h};{exact .inr ⟨b,cap,us,T,h1,h2,h3,h4,h5,h6,λi j hi hj=>⟨(h7 i j hi hj).1.evo (λ_ _ _=>rfl) hS,(h7 i j hi hj).2⟩⟩}
theorem MatAt.map {n s:Nat}{rows:Unit->List (List (List D))}{hs:List (PV×(Unit->Nat))}{f:PV->PV}(h:MatAt w S β n s rows hs)(hS:∀ b i,S b i->S' b i)(hf:∀ v x k,(x,k)∈hs->Rep w S β v x->Rep w S' β v (f x)):MatAt w S' β n s rows (aT f hs):=by have hr:=kV f (.mat s rows hs);obtain⟨hp,h5,h6⟩:=h;refine⟨?_,λi j b hi hj=>h5 i j b ((hr i).1 hi) ((hr j).1 hj),λi b hi=>h6 i b ((hr i).1 hi)⟩;rcases hp with⟨e1,e2,e3⟩|⟨b,vs,T,h1,h2,h3,h4,h7⟩;{subst e3;exact .inl ⟨e1,e2,rfl⟩};{refine .inr ⟨b,vs,T,h1,h2,h3,λv k hk=>?_,λi hi=>(h7 i ((hr i).1 hi)).mono hS⟩;obtain⟨v',g1,rfl⟩:=oA f hk;grind}
theorem RowAt.mono {n s:Nat}{els:Unit->List (List D)}(h:RowAt w S β n s els)(hS:∀ b i,S b i->S' b i):RowAt w S' β n s els:=by rcases h with e|⟨b,vs,T,e1,e2,e3,e4,e5⟩;{exact .inl e};{exact .inr ⟨b,vs,T,e1,e2,e3,e4,λi j hi hj=>⟨(e5 i j hi hj).1.evo (λ_ _ _=>rfl) hS,(e5 i j hi hj).2⟩⟩}
theorem ObjAt.mono {n:Nat}{o:Obj'}(h:ObjAt w S β n o)(hS:∀ b i,S b i->S' b i):ObjAt w S' β n o:=by
 cases o with
 |box cs=>obtain⟨b,vs,T,e1,e2,e3,e4⟩:=h;exact⟨b,vs,T,e1,e2,e3,λj hj=>(e4 j hj).mono hS⟩
 |arr s els=>exact RowAt.mono h hS| log s els=>exact RowAt.mono h hS| lent s els=>exact⟨RowAt.mono h.1 hS,h.2.mono hS⟩| mp t k=>exact h| mat s rows hs =>
  obtain⟨hp,h5,h6⟩:=h;refine⟨?_,h5,h6⟩;rcases hp with hp|⟨b,vs,T,h1,h2,h3,h4,h7⟩;{grind};{exact .inr ⟨b,vs,T,h1,h2,h3,λv k hk=>⟨(h4 v k hk).1,(h4 v k hk).2.mono hS⟩,λi hi=>(h7 i hi).mono hS⟩}
theorem Sim.frz {ps:PS}(h:Sim w0 S0 K0 N (zF ps.tmps) ps.objs a w S β){n:Nat}{o:Obj'}(ho:yO ps.objs n=some o)(hc:Yq o=true)(hT:foT n o ps.tmps)(hO:foO n o ps.objs):∃ S' β',Sim w0 S0 K0 N (zF (Ke n o ps).tmps) (Ke n o ps).objs a w S' β':=by
 have hmem:=xN ho;have F:FrzAt w S (λb i=>S b i\/β n=some b) β n o:=⟨λb i=>.inl,λb h i _=>.inr h,h.obj.at_ n o hmem,hc⟩;refine⟨λb i=>S b i\/β n=some b,β,⟨h.dfr,h.sz,?_,?_,?_,?_,?_⟩⟩
 ·refine⟨h.ld.size,h.ld.os,h.ld.tape,h.ld.output,h.ld.same,h.ld.shape,?_,?_,?_⟩;{rintro b i (hS|hβ);{exact h.ld.bnd b i hS};{exact (h.obj.un n o b hmem (.inl hβ)).2}};{exact λb i hb hS=>.inl (h.ld.sub b i hb hS)}
  ·rintro b i hb hk (hS|hβ);{exact h.ld.old b i hb hk hS}
   ·rcases h.own n o b hmem (.inl hβ) with h'|h'
    all_goals grind
 {intro t;simp only[Ke];rw[kH _ rfl];exact Cd F (h.tmp t) (Kf hT t)}
 ·refine⟨?_,?_,?_,?_⟩;{simp only[Ke,gC];exact (mN _ _).nodup h.obj.nd}
  ·intro m o' hm;obtain⟨o'',h1,h2⟩:=vC _ hm;obtain⟨h3,h4⟩:=vD h1;have hat:=h.obj.at_ m o'' h3;cases o'' with
   |box cs =>
    subst h2;obtain⟨b,vs,T,e1,e2,e3,e4⟩:=hat;exact⟨b,vs,T,e1,e2,by grind [zM],λj hj=>by rw[zM] at hj;rw[yI _ rfl];exact Cd F (e4 j hj) (gR trivial (H4 hO h3) j)⟩
   |arr s els=>subst h2;exact RowAt.mono hat F.sub| log s els=>subst h2;exact RowAt.mono hat F.sub| lent s els=>subst h2;exact⟨RowAt.mono hat.1 F.sub,hat.2.mono F.sub⟩| mp t k=>subst h2;exact hat| mat s rows hs=>subst h2;exact MatAt.map hat F.sub λv x k hk hv=>Cd F hv (H5 (Kh hO h3) hk)
  {intro m o' b hm hβ;obtain⟨o'',h1,rfl⟩:=vC _ hm;obtain⟨h3,h4⟩:=vD h1;obtain⟨h5,h6⟩:=h.obj.un m o'' b h3 (uV hβ);refine⟨?_,h6⟩;rintro i (hS|hn);{grind [pA]};{exact absurd (h.obj.inj _ _ _ _ b h3 hmem (uV hβ) (.inl hn)) h4}};{intro m o' m' o'' b hm hm' hβ hβ';obtain⟨x,h1,rfl⟩:=vC _ hm;obtain⟨y,h2,rfl⟩:=vC _ hm';exact h.obj.inj _ _ _ _ b (vD h1).1 (vD h2).1 (uV hβ) (uV hβ')}
 {intro m o' b hm hβ;obtain⟨x,h1,rfl⟩:=vC _ hm;exact h.own m x b (vD h1).1 (uV hβ)};{intro m o' hm hb;obtain⟨x,h1,_⟩:=vC _ hm;exact h.keep m x (vD h1).1 hb}
theorem sH {f:PV->PV->Prop}(hf:∀ a b,f a b->Le a b):∀ {a b:List PV},kP f a b->LeL a b
 |[],[],_=>by simp[LeL]| x::a,y::b,h=>by simp only[LeL];exact⟨hf _ _ h.1,sH hf h.2⟩| [],y::b,h=>h.elim| x::a,[],h=>h.elim
theorem UJ {a b:PV}(h:QY a b):Le a b:=by unfold QY at h;split at h;{simp only[Le];exact sH (λ_ _ h=>h.h) h};{simp only[Le];exact sH (λ_ _ h=>h.h) h};{exact h.h}
theorem dF {a b:PV}(h:les a b):Le a b:=by unfold les at h;split at h;{grind [Le,sH,UJ]};{grind [Le,sH,UJ]};{grind [Le,xE,sH,UJ]};{exact h.h}
theorem nP {a b:List PV}(h:kP les a b):LeL a b:=sH (λ_ _ h=>dF h) h
theorem QZ {src:List (Nat×PV)}:∀ {l:List (Nat×PV)},leT src l->∀ t,Le (zF src t) (zF l t)
 |[],_,t=>by simp[zF,Le]| (u,v)::r,h,t=>by
  simp only[zF];cases hu:nqb u t with
  |true=>have:=xE hu;subst this;exact dF h.1| false=>exact QZ h.2 t
theorem p7 {src:List (Nat×Obj')}:∀ {l:List (Nat×Obj')},leO src l->∀ {n o},(n,o)∈l->∃ o',(n,o')∈src/\WB o' o
 |(u,x)::r,h,n,o,hm=>by simp only[yM] at hm;rcases hm with hm|hm;{cases hm;have h1:=h.1;grind [xN]};{exact p7 h.2 hm}
theorem Q9 {n:Nat}:∀ {l:List (Nat×Obj')},G7 n l=false->n∉l.map Prod.fst
 |[],_=>by simp| (m,o)::r,h=>by simp only[G7,Gr] at h;simp only[jP,yM,not_or];exact⟨λe=>by simp_all,Q9 h.2⟩
theorem gH:∀ {l:List (Nat×Obj')},ndO l=true->(l.map Prod.fst).Nodup
 |[],_=>List.nodup_nil| (n,o)::r,h=>by simp only[ndO,yZ,Ws] at h;simp only[jP,Zc];exact⟨Q9 h.1,gH h.2⟩
theorem UO:∀ {hs hs':List (PV×(Unit->Nat))},hLe hs hs'->∀ {v k},(v,k)∈hs'->∃ v' k',(v',k')∈hs/\Le v' v/\k' ()=k ()
 |[],[],_,v,k,hm=>by cases hm
 |(x,j)::r,(y,l)::q,h,v,k,hm=>by rcases yM.1 hm with hm|hm;{cases hm;refine⟨x,j,wB,h.1.1.h,?_⟩;have:=h.1.2.h;simp only[Le,true_and] at this;omega};{obtain⟨v',k',h1,h2⟩:=UO h.2 hm;grind}
 |[],y::q,h,_,_,_=>h.elim| x::r,[],h,_,_,hm=>h.elim
theorem Kb:∀ {hs hs':List (PV×(Unit->Nat))},hLe hs hs'->∀ {v k},(v,k)∈hs->∃ v' k',(v',k')∈hs'/\k ()=k' ()
 |[],[],_,v,k,hm=>by cases hm
 |(x,j)::r,(y,l)::q,h,v,k,hm=>by rcases yM.1 hm with hm|hm;{cases hm;refine⟨y,l,wB,?_⟩;have:=h.1.2.h;simp only[Le,true_and] at this;omega};{obtain⟨v',k',h1,h2⟩:=Kb h.2 hm;grind}
 |[],y::q,h,_,_,hm=>h.elim| x::r,[],h,_,_,hm=>h.elim
theorem VA {s:Nat}{rows:Unit->List (List (List D))}{hs hs':List (PV×(Unit->Nat))}(h:hLe hs hs')(i:Nat):kX (.mat s rows hs) i↔kX (.mat s rows hs') i:=by show (_/\_)↔(_/\_);grind [UO,Kb]
inductive ObjLe':Obj'->Obj'->Prop
 |box {a b} (h:LeL a b):ObjLe' (.box a) (.box b)
 |refl (o):ObjLe' o o
 |ll (s els):ObjLe' (.lent s els) (.log s els)
 |mat {s rows hs hs'} (h:hLe hs hs'):ObjLe' (.mat s rows hs) (.mat s rows hs')
theorem Xf {o' o:Obj'}(h:WB o' o):ObjLe' o' o:=by
 cases o' <;> cases o <;> first
  |exact h.elim
  |exact .box (nP h)
  |(obtain⟨hs,he⟩:=h;have:=xE hs;subst this;cases fU he.h;first|exact .refl _|exact .ll _ _;done)
  |(obtain⟨hs,he,hh⟩:=h;have:=xE hs;subst this;cases fU he.h;exact .mat hh)
theorem ObjAt.le {n:Nat}{o o':Obj'}(h:ObjAt w S β n o')(hl:WB o' o):ObjAt w S β n o:=by
 cases Xf hl with
 |refl=>exact h| ll s els=>exact h.1| box hq =>
  obtain⟨b,vs,T,e1,e2,e3,e4⟩:=h;exact⟨b,vs,T,e1,e2,e3.trans (uI hq),λj hj=>(e4 j (by grind [uI])).le _ (pR hq j hj)⟩
 | @mat s rows hs hs' hh =>
  obtain⟨hp,h5,h6⟩:=h;have hr:=λi=>VA (s:=s) (rows:=rows) hh i;refine⟨?_,λi j b hi hj=>h5 i j b ((hr i).2 hi) ((hr j).2 hj),λi b hi=>h6 i b ((hr i).2 hi)⟩;rcases hp with⟨e1,e2,e3⟩|⟨b,vs,T,h1,h2,h3,h4,h7⟩
  ·subst e3;refine .inl ⟨e1,e2,?_⟩;cases hs' with
   |nil=>rfl| cons x r=>exact hh.elim
  {exact .inr ⟨b,vs,T,h1,h2,h3,λv k hk=>by obtain⟨v',k',g1,g2,g3⟩:=UO hh hk;rw[<-g3];exact⟨(h4 v' k' g1).1,(h4 v' k' g1).2.le _ g2⟩,λi hi=>h7 i ((hr i).2 hi)⟩}
theorem Dx {o o':Obj'}(hl:WB o' o){i:Nat}(h:jU o' i):jU o i:=by
 cases Xf hl with
 |refl=>exact h| ll s els=>exact h| box hl=>exact h.elim| mat hh=>exact h.elim
theorem Y8 {n:Nat}{o o':Obj'}{b:Nat}(hl:WB o' o)(h:Own β n o b):Own β n o' b:=by
 cases Xf hl with
 |refl=>exact h| ll s els=>exact .inl (y9 (by intro _ hi;exact hi) h)| box hl=>exact .inl (y9 (by intro _ hi;exact hi) h)| mat hh =>
  rcases h with h|⟨i,h1,h2⟩;{exact .inl h};{exact .inr ⟨i,(VA hh i).2 h1,h2⟩}
theorem Sim.le {ps ps':PS}(h:Sim w0 S0 K0 N (zF ps.tmps) ps.objs a w S β)(ht:leT ps.tmps ps'.tmps)(ho:leO ps.objs ps'.objs)(hn:ndO ps'.objs=true):Sim w0 S0 K0 N (zF ps'.tmps) ps'.objs a w S β where
 dfr:=h.dfr
 sz:=h.sz
 ld:=h.ld
 tmp t:=(h.tmp t).le _ (QZ ht t)
 obj:=⟨gH hn,λn o hm=>by obtain⟨o',h1,h2⟩:=p7 ho hm;exact (h.obj.at_ n o' h1).le h2,
  λn o b hm hβ=>by obtain⟨o',h1,h2⟩:=p7 ho hm;exact⟨λi hS=>Dx h2 ((h.obj.un n o' b h1 (Y8 h2 hβ)).1 i hS),(h.obj.un n o' b h1 (Y8 h2 hβ)).2⟩,
  λn o m o' b hm hm' hβ hβ'=>by obtain⟨x,h1,g1⟩:=p7 ho hm;obtain⟨y,h2,g2⟩:=p7 ho hm';exact h.obj.inj _ _ _ _ b h1 h2 (Y8 g1 hβ) (Y8 g2 hβ')⟩
 own n o b hm hβ:=by obtain⟨o',h1,g1⟩:=p7 ho hm;exact h.own n o' b h1 (Y8 g1 hβ)
 keep n o hm hb:=by obtain⟨o',h1,_⟩:=p7 ho hm;exact h.keep n o' h1 hb
theorem u6 {n:Nat}:∀ {l:List (Nat×PV)},r9 n l=true->∀ t,wJ n (zF l t)=true
 |[],_,t=>rfl| (u,v)::r,h,t=>by
  simp only[r9,yZ] at h;simp only[zF];cases nqb u t with
  |true=>exact h.1| false=>exact u6 h.2 t
def dS (n:Nat):Obj'->Prop
 |.box cs=>wA n cs=true| .arr _ _=>True| .log _ _=>True| .lent _ _=>True| .mat _ _ hs=>aM n hs=true| .mp _ _=>True
theorem lG {n u:Nat}{o:Obj'}{r:List (Nat×Obj')}(h:xH n ((u,o)::r)=true):u≠n/\dS n o/\xH n r=true:=by
 cases o with
 |box cs=>simp only[xH,yZ] at h;exact⟨fN h.1.1,h.1.2,h.2⟩| arr s els=>simp only[xH,yZ] at h;exact⟨fN h.1,trivial,h.2⟩| log s els=>simp only[xH,yZ] at h;exact⟨fN h.1,trivial,h.2⟩| lent s els=>simp only[xH,yZ] at h;exact⟨fN h.1,trivial,h.2⟩| mp t k=>simp only[xH,yZ] at h;exact⟨fN h.1,trivial,h.2⟩| mat s rows hs=>simp only[xH,yZ] at h;exact⟨fN h.1.1,h.1.2,h.2⟩
theorem kR {n:Nat}{l:List (Nat×Obj')}(h:xH n l=true):n<1000000:=by
 induction l with
 |nil=>exact Ux (by grind [xH])| cons a r ih=>exact ih (lG (u:=a.1) (o:=a.2) h).2.2
theorem xR {n:Nat}{l:List (Nat×Obj')}(h:xH n l=true):∀ {m o},(m,o)∈l->m≠n/\dS n o:=by
 induction l with
 |nil=>grind| cons a r ih =>
  intro m o hm;obtain⟨h1,h2,h3⟩:=lG (u:=a.1) (o:=a.2) h;grind
theorem pV {n:Nat}:∀ {hs:List (PV×(Unit->Nat))},aM n hs=true->∀ {v k},(v,k)∈hs->wJ n v=true
 |(u,j)::r,h,v,k,hm=>by simp only[aM,yZ] at h;rcases yM.1 hm with hm|hm;{grind};{exact pV h.2 hm}
theorem RowAt.upd {n:Nat}{x:Option Nat}{m s:Nat}{els:Unit->List (List D)}(h:RowAt w S β m s els)(hm:m≠n):RowAt w S (gX β n x) m s els:=by rcases h with⟨e0,e⟩|⟨b,vs,T,e1,rest⟩;{exact .inl ⟨by grind [vW],e⟩};{exact .inr ⟨b,vs,T,by grind [vW],rest⟩}
theorem ObjAt.upd {n:Nat}{x:Option Nat}{m:Nat}{o:Obj'}(h:ObjAt w S β m o)(hm:m≠n)(hf:dS n o):ObjAt w S (gX β n x) m o:=by
 cases o with
 |box cs =>
  obtain⟨b,vs,T,e1,e2,e3,e4⟩:=h;exact⟨b,vs,T,by grind [vW],e2,e3,λj hj=>(e4 j hj).upd (xP rfl hf j)⟩
 |arr s els=>exact RowAt.upd h hm| log s els=>exact RowAt.upd h hm| lent s els =>
  obtain⟨h,hst⟩:=h;exact⟨RowAt.upd h hm,λb hb i hi=>hst b (by grind [vW]) i hi⟩
 |mp t k=>exact MapAt.to h (vW hm) λ_ _=>rfl| mat s rows hs =>
  obtain⟨hp,h5,h6⟩:=h;refine⟨?_,h5,λi b hi hb=>by rw[vW hm];exact h6 i b hi hb⟩;rcases hp with⟨e1,e2,e3⟩|⟨b,vs,T,h1,h2,h3,h4,h7⟩;{grind [vW]};{exact .inr ⟨b,vs,T,by grind [vW],h2,h3,λv k hk=>⟨(h4 v k hk).1,(h4 v k hk).2.upd (pV hf hk)⟩,h7⟩}
theorem Sim.freshO {ps:PS}(h:Sim w0 S0 K0 N (zF ps.tmps) ps.objs a w S β){n:Nat}{O:Obj'}(hf:yV n ps=true)(hO:∀ β':Bm,β' n=none->ObjAt w S β' n O)(hr:∀ i,¬kX O i):Sim w0 S0 K0 N (zF ps.tmps) (ps.objs++[(n,O)]) a w S (gX β n none):=by
 simp only[yV,yZ] at hf;have hmem:∀ {m o},(m,o)∈ps.objs++[(n,O)]->((m,o)∈ps.objs/\m≠n)\/(m=n/\o=O):=by intro m o hm;simp only[qH,jA] at hm;rcases hm with hm|hm;{exact .inl ⟨hm,(xR hf.2 hm).1⟩};grind
 refine⟨h.dfr,h.sz,h.ld,λt=>(h.tmp t).upd (u6 hf.1 t),⟨?_,?_,?_,?_⟩,?_,?_⟩;{rw[gV,Wr];refine⟨h.obj.nd,by simp,?_⟩;intro x hx y hy e;simp at hy;subst hy e;obtain⟨⟨m,o⟩,h1,rfl⟩:=xB.1 hx;exact (xR hf.2 h1).1 rfl};{intro m o hm;rcases hmem hm with⟨h1,h2⟩|⟨rfl,rfl⟩;{exact (h.obj.at_ m o h1).upd h2 (xR hf.2 h1).2};{exact hO _ xC}};{intro m o b hm hβ;rcases hmem hm with⟨h1,h2⟩|⟨rfl,rfl⟩;{exact h.obj.un m o b h1 (vA h2 hβ)};{have:=y9 hr hβ;grind [xC]}};{intro m o m' o' b hm hm' hβ hβ';rcases hmem hm with⟨h1,h2⟩|⟨rfl,rfl⟩;{rcases hmem hm' with⟨h3,h4⟩|⟨rfl,rfl⟩;{exact h.obj.inj _ _ _ _ b h1 h3 (vA h2 hβ) (vA h4 hβ')};{have:=y9 hr hβ';grind [xC]}};{have:=y9 hr hβ;grind [xC]}};{intro m o b hm hβ;rcases hmem hm with⟨h1,h2⟩|⟨rfl,rfl⟩;{exact h.own m o b h1 (vA h2 hβ)};{have:=y9 hr hβ;grind [xC]}};{intro m o hm hb;rcases hmem hm with⟨h1,h2⟩|⟨rfl,rfl⟩;{rw[vW h2];exact h.keep m o h1 hb};{have:=kR hf.2;omega}}
theorem Sim.fresh {ps:PS}(h:Sim w0 S0 K0 N (zF ps.tmps) ps.objs a w S β){n s:Nat}(hf:yV n ps=true):Sim w0 S0 K0 N (zF ps.tmps) (ps.objs++[(n,.arr s (λ_=>[]))]) a w S (gX β n none):=h.freshO hf (λβ' h=>.inl ⟨h,rfl⟩) λ_ hi=>hi
theorem Sim.setT {ps:PS}(h:Sim w0 S0 K0 N (zF ps.tmps) objs a w S β){t:Nat}{x:PV}(hx:Rep w S β (a.tmps.getD t undef) x):Sim w0 S0 K0 N (zF (uC ps.tmps t x)) objs a w S β :=
 ⟨h.dfr,h.sz,h.ld,λu=>by
  rw[d7];by_cases e:u=t;{grind}
  ·simpa[e] using h.tmp u,h.obj,h.own,h.keep⟩
theorem xT:∀ {l:List (Nat×Obj')} {n:Nat} {x:Obj'} {m:Nat} {o:Obj'},(l.map Prod.fst).Nodup->n∈l.map Prod.fst->(m,o)∈setO l n x->(m=n/\o=x)\/(m≠n/\(m,o)∈l)
 |(u,v)::r,n,x,m,o,hnd,hn,hm=>by
  simp only[jP,Zc] at hnd;simp only[setO] at hm;cases hu:nqb u n with
  |true =>
   have:=xE hu;grind
  |false =>
   (have hne:u≠n:=λe=>by simp_all);simp only[hu,cond_false,yM] at hm
   rcases hm with hm|hm;{grind}
   ·(have hn':n∈r.map Prod.fst:=by grind);rcases xT hnd.2 hn' hm with h|⟨h1,h2⟩
    all_goals grind
 |[],n,x,m,o,hnd,hn,hm=>by grind
theorem u9:∀ {l:List (Nat×Obj')} {n:Nat} {x:Obj'},n∈l.map Prod.fst->(setO l n x).map Prod.fst=l.map Prod.fst
 |(u,v)::r,n,x,hn=>by
  simp only[setO];cases hu:nqb u n with
  |true=>simp_all| false =>
   (have hne:u≠n:=λe=>by simp_all);have hn':n∈r.map Prod.fst:=by grind
   simp only[cond_false,jP,u9 hn']
 |[],n,x,hn=>by grind
theorem A2:∀ {l:List (Nat×Obj')} {n:Nat} {x y:Obj'},(l.map Prod.fst).Nodup->(n,x)∈l->(n,y)∈l->x=y
 |(u,v)::r,n,x,y,hnd,h1,h2=>by simp only[jP,Zc] at hnd;rcases yM.1 h1 with e1|h1;{grind};{rcases yM.1 h2 with e2|h2;{grind};{exact A2 hnd.2 h1 h2}}
theorem Sim.lend {ps:PS}(h:Sim w0 S0 K0 N (zF ps.tmps) ps.objs a w S β){n t:Nat}{o:Obj'}{s:Nat}{els:Unit->List (List D)}(ho:yO ps.objs n=some o)(hr:WJ o=some (s,els))(hf:fo n o (zF ps.tmps t)):∃ S' β',Sim w0 S0 K0 N (zF (uC ps.tmps t (Go.Proofs.YtaeaffgjdcigoaaGreat.frz n o (zF ps.tmps t)))) (Go.Proofs.YtaeaffgjdcigoaaGreat.setO ps.objs n (.log s els)) a w S' β':=by
 have hmem:=xN ho;have hsz:=K6 hr;have F:FrzAt w S (λb i=>S b i\/(β n=some b/\i<szO o)) β n o:=⟨λb i=>.inl,λb h i hi=>.inr ⟨h,hi⟩,h.obj.at_ n o hmem,by cases o <;> first|rfl|cases hr⟩;have hpo:∀ i,jU o i->i<szO o:=λi hi=>by cases o <;> first|exact hi.elim|exact hi
 have hnin:n∈ps.objs.map Prod.fst:=xB.2 ⟨_,hmem,rfl⟩;have h1:Sim w0 S0 K0 N (zF ps.tmps) (Go.Proofs.YtaeaffgjdcigoaaGreat.setO ps.objs n (.log s els)) a w (λb i=>S b i\/(β n=some b/\i<szO o)) β:=by
  refine⟨h.dfr,h.sz,?_,λt=>(h.tmp t).mono F.sub,⟨by rw[u9 hnin];exact h.obj.nd,?_,?_,?_⟩,?_,?_⟩
  ·refine⟨h.ld.size,h.ld.os,h.ld.tape,h.ld.output,h.ld.same,h.ld.shape,?_,?_,?_⟩;{rintro b i (hS|hβ);{exact h.ld.bnd b i hS};{exact (h.obj.un n o b hmem (.inl hβ.1)).2}};{exact λb i hb hS=>.inl (h.ld.sub b i hb hS)}
   ·rintro b i hb hk (hS|hβ);{exact h.ld.old b i hb hk hS}
    ·rcases h.own n o b hmem (.inl hβ.1) with h'|h'
     all_goals grind
  {intro m x hm;rcases xT h.obj.nd hnin hm with⟨rfl,rfl⟩|⟨_,h2⟩;{exact RowAt.mono (eE hr (h.obj.at_ _ o hmem)) F.sub};{exact (h.obj.at_ m x h2).mono F.sub}};{intro m x b hm hβ;rcases xT h.obj.nd hnin hm with⟨rfl,rfl⟩|⟨hne,h2⟩;{have hβ:=y9 (by intro _ hi;exact hi) hβ;refine⟨?_,(h.obj.un _ o b hmem (.inl hβ)).2⟩;rintro i (hS|hS);{have:=hpo i ((h.obj.un _ o b hmem (.inl hβ)).1 i hS);rw[hsz] at this;exact this};{rw[hsz] at hS;exact hS.2}};{refine⟨?_,(h.obj.un m x b h2 hβ).2⟩;rintro i (hS|hS);{exact (h.obj.un m x b h2 hβ).1 i hS};{exact absurd (h.obj.inj _ _ _ _ b h2 hmem hβ (.inl hS.1)) hne}}}
  ·(intro m x m' x' b hm hm' hβ hβ';have key:∀ {m x},(m,x)∈Go.Proofs.YtaeaffgjdcigoaaGreat.setO ps.objs n (.log s els)->Own β m x b->∃ x',(m,x')∈ps.objs/\Own β m x' b:=by intro m x hm hb;rcases xT h.obj.nd hnin hm with⟨rfl,rfl⟩|⟨_,h2⟩;{exact⟨o,hmem,.inl (y9 (by intro _ hi;exact hi) hb)⟩};grind);obtain⟨x1,h1,g1⟩:=key hm hβ;obtain⟨x2,h2,g2⟩:=key hm' hβ';exact h.obj.inj _ _ _ _ b h1 h2 g1 g2
  {intro m x b hm hβ;rcases xT h.obj.nd hnin hm with⟨rfl,rfl⟩|⟨_,h2⟩;{exact h.own _ o b hmem (.inl (y9 (by intro _ hi;exact hi) hβ))};{exact h.own m x b h2 hβ}};{intro m x hm hb;rcases xT h.obj.nd hnin hm with⟨rfl,rfl⟩|⟨_,h2⟩;{exact h.keep _ o hmem hb};{exact h.keep m x h2 hb}}
 exact⟨_,β,h1.setT (Cd F (h.tmp t) hf)⟩
theorem Sim.pub {ps:PS}(h:Sim w0 S0 K0 N (zF ps.tmps) ps.objs a w S β){n:Nat}{o:Obj'}{s:Nat}{els:Unit->List (List D)}(ho:yO ps.objs n=some o)(hr:WJ o=some (s,els)):∃ S' β',Sim w0 S0 K0 N (zF ps.tmps) (Go.Proofs.YtaeaffgjdcigoaaGreat.setO ps.objs n (.lent s els)) a w S' β':=by
 have hmem:=xN ho;have hsz:=K6 hr;have F:FrzAt w S (λb i=>S b i\/(β n=some b/\i<szO o)) β n o:=⟨λb i=>.inl,λb h i hi=>.inr ⟨h,hi⟩,h.obj.at_ n o hmem,by cases o <;> first|rfl|cases hr⟩;have hpo:∀ i,jU o i->i<szO o:=λi hi=>by cases o <;> first|exact hi.elim|exact hi
 have hnin:n∈ps.objs.map Prod.fst:=xB.2 ⟨_,hmem,rfl⟩;have h1:Sim w0 S0 K0 N (zF ps.tmps) (Go.Proofs.YtaeaffgjdcigoaaGreat.setO ps.objs n (.lent s els)) a w (λb i=>S b i\/(β n=some b/\i<szO o)) β:=by
  refine⟨h.dfr,h.sz,?_,λt=>(h.tmp t).mono F.sub,⟨by rw[u9 hnin];exact h.obj.nd,?_,?_,?_⟩,?_,?_⟩
  ·refine⟨h.ld.size,h.ld.os,h.ld.tape,h.ld.output,h.ld.same,h.ld.shape,?_,?_,?_⟩;{rintro b i (hS|hβ);{exact h.ld.bnd b i hS};{exact (h.obj.un n o b hmem (.inl hβ.1)).2}};{exact λb i hb hS=>.inl (h.ld.sub b i hb hS)}
   ·rintro b i hb hk (hS|hβ);{exact h.ld.old b i hb hk hS}
    ·rcases h.own n o b hmem (.inl hβ.1) with h'|h'
     all_goals grind
  {intro m x hm;rcases xT h.obj.nd hnin hm with⟨rfl,rfl⟩|⟨_,h2⟩;{exact⟨RowAt.mono (eE hr (h.obj.at_ _ o hmem)) F.sub,λb hb i hi=>F.new b hb i oM⟩};{exact (h.obj.at_ m x h2).mono F.sub}};{intro m x b hm hβ;rcases xT h.obj.nd hnin hm with⟨rfl,rfl⟩|⟨hne,h2⟩;{have hβ:=y9 (by intro _ hi;exact hi) hβ;refine⟨?_,(h.obj.un _ o b hmem (.inl hβ)).2⟩;rintro i (hS|hS);{have:=hpo i ((h.obj.un _ o b hmem (.inl hβ)).1 i hS);rw[hsz] at this;exact this};{rw[hsz] at hS;exact hS.2}};{refine⟨?_,(h.obj.un m x b h2 hβ).2⟩;rintro i (hS|hS);{exact (h.obj.un m x b h2 hβ).1 i hS};{exact absurd (h.obj.inj _ _ _ _ b h2 hmem hβ (.inl hS.1)) hne}}}
  ·(intro m x m' x' b hm hm' hβ hβ';have key:∀ {m x},(m,x)∈Go.Proofs.YtaeaffgjdcigoaaGreat.setO ps.objs n (.lent s els)->Own β m x b->∃ x',(m,x')∈ps.objs/\Own β m x' b:=by intro m x hm hb;rcases xT h.obj.nd hnin hm with⟨rfl,rfl⟩|⟨_,h2⟩;{exact⟨o,hmem,.inl (y9 (by intro _ hi;exact hi) hb)⟩};grind);obtain⟨x1,h1,g1⟩:=key hm hβ;obtain⟨x2,h2,g2⟩:=key hm' hβ';exact h.obj.inj _ _ _ _ b h1 h2 g1 g2
  {intro m x b hm hβ;rcases xT h.obj.nd hnin hm with⟨rfl,rfl⟩|⟨_,h2⟩;{exact h.own _ o b hmem (.inl (y9 (by intro _ hi;exact hi) hβ))};{exact h.own m x b h2 hβ}};{intro m x hm hb;rcases xT h.obj.nd hnin hm with⟨rfl,rfl⟩|⟨_,h2⟩;{exact h.keep _ o hmem hb};{exact h.keep m x h2 hb}}
 grind
theorem Sim.setO (h:Sim w0 S0 K0 N τ objs a w S β){n:Nat}{x:Obj'}(hn:n∈objs.map Prod.fst)(hx:ObjAt w S β n x)(hpub:∀ o0,(n,o0)∈objs->∀ i,jU o0 i->jU x i)(hown:∀ o0,(n,o0)∈objs->∀ b,Own β n x b->Own β n o0 b):Sim w0 S0 K0 N τ (Go.Proofs.YtaeaffgjdcigoaaGreat.setO objs n x) a w S β:=by
 obtain⟨⟨n',o0⟩,hm0,rfl⟩:=xB.1 hn;have key:∀ {m o b},(m,o)∈Go.Proofs.YtaeaffgjdcigoaaGreat.setO objs n' x->Own β m o b->∃ o',(m,o')∈objs/\Own β m o' b:=by
  intro m o b hm hb;rcases xT h.obj.nd hn hm with⟨rfl,rfl⟩|⟨_,h2⟩
  all_goals grind
 have key0:∀ {m o},(m,o)∈Go.Proofs.YtaeaffgjdcigoaaGreat.setO objs n' x->∃ o',(m,o')∈objs:=by
  intro m o hm;rcases xT h.obj.nd hn hm with⟨rfl,rfl⟩|⟨_,h2⟩
  all_goals grind
 refine⟨h.dfr,h.sz,h.ld,h.tmp,⟨by rw[u9 hn];exact h.obj.nd,?_,?_,?_⟩,?_,?_⟩;{intro m o hm;rcases xT h.obj.nd hn hm with⟨rfl,rfl⟩|⟨_,h2⟩;{exact hx};{exact h.obj.at_ m o h2}};{intro m o b hm hβ;rcases xT h.obj.nd hn hm with⟨rfl,rfl⟩|⟨_,h2⟩;{have hβ:=hown o0 hm0 b hβ;exact⟨λi hS=>hpub o0 hm0 i ((h.obj.un _ o0 b hm0 hβ).1 i hS),(h.obj.un _ o0 b hm0 hβ).2⟩};{exact h.obj.un m o b h2 hβ}};{intro m o m' o' b hm hm' hβ hβ';obtain⟨x1,h1,g1⟩:=key hm hβ;obtain⟨x2,h2,g2⟩:=key hm' hβ';exact h.obj.inj _ _ _ _ b h1 h2 g1 g2};{intro m o b hm hβ;obtain⟨o',h1,g1⟩:=key hm hβ;exact h.own m o' b h1 g1};{intro m o hm hb;obtain⟨o',h1⟩:=key0 hm;exact h.keep m o' h1 hb}
theorem Qw (cs:List PV)(j k:Nat)(x:PV)(hk:k<cs.length):(cs.set j x).getD k .any=if j=k then x else cs.getD k .any:=by grind
theorem i7 {n:Nat}{v pv}(h:Rep w S β v pv):Rep w S β v (sc0 n pv):=by
 cases pv with
 |agg cs=>exact xQ _| tup cs=>exact xQ _| fn f cs=>exact xQ _| ptr m off=>simp only[sc0];cases nqb m n <;> first|exact h|exact xQ _
 |aptr m s i off=>simp only[sc0];cases nqb m n <;> first|exact h|exact xQ _
 |osl m s i len=>simp only[sc0];cases nqb m n <;> first|exact h|exact xQ _
 |mpv m=>simp only[sc0];cases nqb m n <;> first|exact h|exact xQ _
 |_=>exact h
theorem Ud {n:Nat}{v pv}(h:Rep w S β v pv):Rep w S β v (sc1 n pv):=by
 cases pv with
 |agg cs =>
  obtain⟨vs,rfl,h1,h2⟩:=qJ h;exact .agg (by grind [zM]) λj hj=>by rw[zM] at hj;rw[yI _ rfl];grind [i7]
 |tup cs =>
  obtain⟨vs,rfl,h1,h2⟩:=gZ h;exact .tup (by grind [zM]) λj hj=>by rw[zM] at hj;rw[yI _ rfl];grind [i7]
 |fn f cs =>
  obtain⟨vs,rfl,h1,h2⟩:=j7 h;exact .fn (by grind [zM]) λj hj=>by rw[zM] at hj;rw[yI _ rfl];grind [i7]
 |_=>exact i7 (n:=n) h
theorem Yj {n:Nat}{v pv}(h:Rep w S β v pv):Rep w S β v (scr n pv):=by
 cases pv with
 |agg cs =>
  obtain⟨vs,rfl,h1,h2⟩:=qJ h;exact .agg (by grind [zM]) λj hj=>by rw[zM] at hj;rw[yI _ rfl];grind [Ud]
 |tup cs =>
  obtain⟨vs,rfl,h1,h2⟩:=gZ h;exact .tup (by grind [zM]) λj hj=>by rw[zM] at hj;rw[yI _ rfl];grind [Ud]
 |fn f cs =>
  obtain⟨vs,rfl,h1,h2⟩:=j7 h;exact .fn (by grind [zM]) λj hj=>by rw[zM] at hj;rw[yI _ rfl];grind [Ud]
 |_=>exact i7 (n:=n) h
theorem mZ (n:Nat):scr n .any=.any:=rfl
theorem Sim.drop {ps:PS}(h:Sim w0 S0 K0 N (zF ps.tmps) ps.objs a w S β)(n:Nat):Sim w0 S0 K0 N (zF (uE (scr n) ps.tmps)) (xO (scr n) (uA ps.objs n)) a w S β:=by
 refine⟨h.dfr,h.sz,h.ld,λt=>by rw[kH _ (mZ n)];exact Yj (h.tmp t),⟨?_,?_,?_,?_⟩,?_,?_⟩;{rw[gC];exact (mN _ _).nodup h.obj.nd}
 ·intro m o' hm;obtain⟨o'',h1,h2⟩:=vC _ hm;obtain⟨h3,h4⟩:=vD h1;have hat:=h.obj.at_ m o'' h3;cases o'' with
  |box cs =>
   subst h2;obtain⟨b,vs,T,e1,e2,e3,e4⟩:=hat;exact⟨b,vs,T,e1,e2,by grind [zM],λj hj=>by grind [zM,yI,mZ,Yj]⟩
  |arr s els=>subst h2;exact hat| log s els=>subst h2;exact hat| lent s els=>subst h2;exact hat| mp t k=>subst h2;exact hat| mat s rows hs=>subst h2;exact MatAt.map hat (λ_ _ h=>h) λv x k hk hv=>Yj hv
 {intro m o' b hm hβ;obtain⟨o'',h1,rfl⟩:=vC _ hm;have:=h.obj.un m o'' b (vD h1).1 (uV hβ);grind [pA]};{intro m o' m' o'' b hm hm' hβ hβ';obtain⟨x,h1,rfl⟩:=vC _ hm;obtain⟨y,h2,rfl⟩:=vC _ hm';exact h.obj.inj _ _ _ _ b (vD h1).1 (vD h2).1 (uV hβ) (uV hβ')};{intro m o' b hm hβ;obtain⟨x,h1,rfl⟩:=vC _ hm;exact h.own m x b (vD h1).1 (uV hβ)};{intro m o' hm hb;obtain⟨x,h1,_⟩:=vC _ hm;exact h.keep m x (vD h1).1 hb}
theorem Sim.adopt {ps:PS}(h:Sim w0 S0 K0 N (zF ps.tmps) ps.objs a w S β){n s m j:Nat}{cs:List PV}{O:Obj'}(hO:∀ β':Bm,β' n=none->ObjAt w S β' n O)(hr:∀ i,¬kX O i)(hf:yV n ps=true)(ho:yO ps.objs m=some (.box cs))(hj:kU (cs.getD j .any)=true):∃ S' β',Sim w0 S0 K0 N (zF ps.tmps) (Go.Proofs.YtaeaffgjdcigoaaGreat.setO ps.objs m (.box (cs.set j (.osl n s (λ_=>0) (λ_=>0))))++[(n,O)]) a w S' β':=by
 have hmem:=xN ho;have hf':=hf;simp only[yV,yZ] at hf';have hmn:=(xR hf'.2 hmem).1;have h1:=h.freshO hf hO hr;obtain⟨b,vs,T,e1,e2,e3,e4⟩:=h.obj.at_ m _ hmem;have hin:m∈(ps.objs++[(n,O)]).map Prod.fst:=by grind
 have hjl:j<cs.length:=by refine Nat.lt_of_not_le λh=>?_;rw[fO,pQ h] at hj;cases hj
 have h2:=h1.setO (n:=m) (x:=.box (cs.set j (.osl n s (λ_=>0) (λ_=>0)))) hin ⟨b,vs,T,by grind [vW],e2,by grind,λk hk=>by
  simp only[KS] at hk;rw[Qw _ _ _ _ hk];by_cases hjk:j=k;{subst hjk;rw[if_pos rfl];have:=e4 j hk;obtain⟨⟨av,hv⟩,_⟩:=eH hj this;rw[hv];exact .osl0 xC rfl rfl}
  ·rw[if_neg hjk];exact (e4 k hk).upd (xP rfl (xR hf'.2 hmem).2 k)⟩ (λo0 ho0 i hp=>by
  have hms:(m,Obj'.box cs)∈ps.objs++[(n,O)]:=VQ _ hmem;have:=A2 h1.obj.nd ho0 hms;rw[this] at hp;exact hp.elim) (λo0 _ b hb=>.inl (y9 (by intro _ hi;exact hi) hb))
 refine⟨S,gX β n none,?_⟩;have:Go.Proofs.YtaeaffgjdcigoaaGreat.setO (ps.objs++[(n,O)]) m (.box (cs.set j (.osl n s (λ_=>0) (λ_=>0))))=Go.Proofs.YtaeaffgjdcigoaaGreat.setO ps.objs m (.box (cs.set j (.osl n s (λ_=>0) (λ_=>0))))++[(n,O)]:=by
  have gen:∀ (l:List (Nat×Obj')) (k:List (Nat×Obj')) (x:Obj'),m∈l.map Prod.fst->Go.Proofs.YtaeaffgjdcigoaaGreat.setO (l++k) m x=Go.Proofs.YtaeaffgjdcigoaaGreat.setO l m x++k:=by
   intro l k x hm;induction l with
   |nil=>grind| cons p r ih =>
    obtain⟨u,v⟩:=p;simp only[Wm,Go.Proofs.YtaeaffgjdcigoaaGreat.setO];cases hu:nqb u m with
    |true=>rfl| false =>
     (have hne:u≠m:=λe=>by simp_all);grind
  grind
 grind
theorem nJ:∀ {l:List (Nat×Obj')} {n m:Nat} {o:Obj'},(m,o)∈l->m≠n->(m,o)∈uA l n
 |(u,v)::r,n,m,o,hm,hne=>by
  simp only[uA];cases hu:nqb u n with
  |true =>
   rcases yM.1 hm with e|hm;{simp_all};{exact nJ hm hne}
  |false =>
   rcases yM.1 hm with e|hm;{grind};{exact x9 _ (nJ hm hne)}
theorem nH (f:PV->PV):∀ {l:List (Nat×Obj')} {n:Nat} {o:Obj'},(n,o)∈l->(n,xZ f o)∈xO f l
 |(u,v)::r,n,o,hm=>by rcases yM.1 hm with e|hm;{cases e;cases v <;> exact wB};{have:=nH f hm;cases v <;> exact x9 _ this}
theorem Wk.sound {ps ps':PS}(k:Wk ps ps'):∀ {S β},Sim w0 S0 K0 N (zF ps.tmps) ps.objs a w S β->∃ S' β',Sim w0 S0 K0 N (zF ps'.tmps) ps'.objs a w S' β':=by
 induction k with
 |refl ps=>grind| le ht ho hn=>intro S β h;exact⟨S,β,h.le ht ho hn⟩| frz n ho hc hT hO=>intro S β h;exact h.frz ho hc hT hO| lend n t ho hr hf=>intro S β h;exact h.lend ho hr hf| pub n ho hr=>intro S β h;exact h.pub ho hr| fresh n s hf=>intro S β h;exact⟨S,gX β n none,h.fresh hf⟩| drop n=>intro S β h;exact⟨S,β,h.drop n⟩| adoptT n s t hf ht =>
  intro S β h;refine⟨S,gX β n none,(h.fresh hf).setT ?_⟩;have:=h.tmp t;obtain⟨⟨av,hv⟩,_⟩:=eH ht this;rw[hv];exact .osl0 xC rfl rfl
 |adoptB n s m j hf ho hj=>intro S β h;exact h.adopt (λβ' h=>.inl ⟨h,rfl⟩) (λ_ hi=>hi) hf ho hj| trans _ _ ih1 ih2=>grind
theorem GX (h:Sim w0 S0 K0 N τ objs a w S β){pv:PV}{v:Value}{K:PV->Prop}(hl:ldV objs pv K)(hr:Rep w S β v pv):∃ pv',K pv'/\Rep w S β v pv':=by
 unfold ldV at hl;cases hn:lnt objs pv with
 |false=>grind| true =>
  rw[hn] at hl;rcases hl.h with hK|⟨n,s,els,h1,h2,h3⟩;{grind};{have hat:=h.obj.at_ n _ (xN h1);exact⟨_,h3,Cd (S':=S) (o:=.lent s els) ⟨λ_ _ x=>x,λb hb i hi=>hat.2 b hb i hi,hat,rfl⟩ hr h2⟩}
theorem Zg {o:Oper}{K:PV->Prop}{Km:Act->World->Prop}{Q:Exit->Act->World->Prop}(h:Sim w0 S0 K0 N τ objs a w S β)(hs:sop objs o.op (ev τ) K) (hk:∀ pv w' S' v,K pv->Leads w S uS w' S'->Rep w' S' β v pv->Km (a.put o.dst v) w'):o.wp Pg a w Km Q:=by
 have he:∀ x,Rep w S β (a.eval x) (ev τ x):=λx=>h.eval x;have hrefl:Leads w S uS w S:=Leads.refl h.ld.bnd;have fin:∀ pv v,(execOp a.eval o).run Pg w=.ok (.value v) w->K pv->Rep w S β v pv->o.wp Pg a w Km Q:=λpv v h1 h2 h3=>kK h1 (hk pv w S v h2 hrefl h3);unfold sop at hs;split at hs;{rename_i x hop;exact fin _ _ (by simp[execOp,hop]) hs (he x)};{rename_i x hop;exact fin _ _ (by simp[execOp,hop]) hs (he x)}
 ·rename_i c x y hop;obtain⟨b,hb,ht,hf⟩:=ZE (he c) hs;cases b with
  |true=>exact fin _ _ (by simp[execOp,hop,hb,asBool]) (ht rfl) (he x)| false=>exact fin _ _ (by simp[execOp,hop,hb,asBool]) (hf rfl) (he y)
 {rename_i t parts hop;split at hs;{rename_i n fs z ht;split at hs;{rename_i cs hf;obtain⟨vs,h1,h2⟩:=Ui ht he hf;exact fin _ _ (by simp[execOp,hop,h1]) hs (.agg h2.1 h2.2)};grind};{rename_i len n ag z ht;split at hs;{rename_i cs hf;obtain⟨vs,h1,h2⟩:=WH ht he hf;exact fin _ _ (by simp[execOp,hop,h1]) hs (.agg h2.1 h2.2)};grind};grind}
 ·rename_i t len parts hop;split at hs
  ·rename_i n b z ht;split at hs
   ·rename_i els hf;cases hc:(nle (len*n) 1000&&mO els) with
    |false=>grind| true =>
     simp only[hc,cond_true] at hs;simp only[yZ] at hc;obtain⟨w',S',v,h1,h2,h3⟩:=Y2 ht h.ld.bnd he hf (mE hc.1) hc.2;exact kK (by simp[execOp,hop,h1]) (hk _ _ _ _ hs h2 h3)
   grind
  grind
 ·rename_i t x hop;split at hs;{rename_i cs off hx;have hr:=he x;rw[hx] at hr;obtain⟨b,o',vals,hS,hv,hf,hc,hrr⟩:=aK hr;obtain⟨pv,val,h1,h2,h3⟩:=bX (w:=w) (S:=S) (β:=β) hs vals hc (Um hf hrr);exact fin pv val (by simp[execOp,hop,hv,h2]) h1 h3};{rename_i n off hx;split at hs;{rename_i cs ho;have hr:=he x;rw[hx] at hr;obtain⟨b,hβ,hv⟩:=qW hr;obtain⟨b',vs,T,hβ',hb,hsz,hrr⟩:=Uv h ho;rw[hβ] at hβ';cases hβ';obtain⟨pv,val,h1,h2,h3⟩:=bX (w:=w) (S:=S) (β:=β) (b:=b) (o:=0) hs (λj=>vs.getD j undef) (λj hj=>by rw[gW];grind [dR]) hrr;obtain⟨pv',h1',h3'⟩:=GX h h1 h3;exact fin pv' val (by rw[gW] at h2;simp[execOp,hop,hv,h2]) h1' h3'};grind}
  ·rename_i n s i off hx;split at hs
   ·rename_i s' els ho;cases hss:nqb s s' with
    |false=>grind| true =>
     (simp only[hss,cond_true] at hs;have:=xE hss;subst this;obtain⟨c,hcf,hcl,hck,hK⟩:=hs.h;have hr:=he x;rw[hx] at hr;obtain⟨b,hβ,hv⟩:=kQ hr;have hlt:i ()<(els ()).length:=by grind);rcases h.obj.at_ n _ (xN ho) with⟨hn,he0⟩|⟨b',vs,T,hβ',hb,hsz,hwid,hrr⟩
     {grind}
     ·(rw[hβ] at hβ';cases hβ';have hg:(els ()).getD (i ()) []=xD c:=by grind);obtain⟨pv,val,h1,h2,h3⟩:=bX (w:=w) (S:=S) (β:=β) (b:=b) (o:=i ()*s) hK (λj=>vs.getD (i ()*s+j) undef)
       (λj hj=>dR hb _ (by
        have:i ()*s+s<=(els ()).length*s:=by
         calc i ()*s+s=(i ()+1)*s:=by grind
          _<=_:=jB _ hlt
        omega))
       (λj hj=>by have:=(hrr (i ()) j hlt oM).1;rw[hg,gK] at this;exact .c (xP rfl hcf j) this)
      exact fin pv val (by simp[execOp,hop,hv,h2]) h1 h3
   ·rename_i sm rows hs0 ho;cases hss:(nqb s 1&&nqb off 0) with
    |false=>grind| true =>
     simp only[hss] at hs;simp only[yZ] at hss;have e1:=xE hss.1;have e2:=xE hss.2;subst e1 e2;obtain⟨v0,k0,hk0,hki,hK⟩:=hs.h;have hr:=he x;rw[hx] at hr;obtain⟨b,hβ,hv⟩:=kQ hr;rcases (show MatAt w S β n sm rows hs0 from h.obj.at_ n _ (xN ho)).pl with⟨_,_,hn⟩|⟨b',vs,T,hβ',hb,hsz,hhs,_⟩;{grind}
     ·rw[hβ] at hβ';cases hβ';obtain⟨hlt,hrp⟩:=hhs v0 k0 hk0;obtain⟨pv,val,h1,h2,h3⟩:=bX (w:=w) (S:=S) (β:=β) (b:=b) (o:=i ()) hK (λj=>vs.getD (i ()+j) undef)
       (λj hj=>dR hb _ (by grind))
       (λj hj=>by grind)
      exact fin pv val (by rw[WV] at h2;simp[execOp,hop,hv,h2]) h1 h3
   ·rename_i cs ho;cases hss:(nqb s 1&&nqb off 0) with
    |false=>grind| true =>
     simp only[hss] at hs;simp only[yZ] at hss;have e1:=xE hss.1;have e2:=xE hss.2;subst e1 e2;obtain⟨hi,hK⟩:=hs.h;have hr:=he x;rw[hx] at hr;obtain⟨b,hβ,hv⟩:=kQ hr;obtain⟨b',vs,T,hβ',hb,hsz,hcs⟩:=h.obj.at_ n _ (xN ho);rw[hβ] at hβ';cases hβ';obtain⟨pv,val,h1,h2,h3⟩:=bX (w:=w) (S:=S) (β:=β) (b:=b) (o:=0) hK (λj=>vs.getD j undef) (λj hj=>by rw[gW];grind [dR]) hcs;exact fin pv val (by simp[execOp,hop,hv] at h2 ⊢;simp[h2]) h1 h3
   grind
  grind
 {rename_i bop t x y yt hop;obtain⟨pv,val,h1,h2,h3⟩:=J1 (ox:=x) (oy:=y) (λc e=>by rw[e];rfl) (he x) (he y) hs;exact fin pv val (by simp only[execOp,hop,Sem.run_bind] at h2 ⊢;simp[h2]) h1 h3};{rename_i op t x hop;have hr:=he x;split at hs;{rename_i hx;rw[hx] at hr;exact fin _ (.bool false) (by simp[execOp,hop,Op.unary,lX hr]) hs (.c rfl (.bool false))};{rename_i hx;rw[hx] at hr;exact fin _ (.bool true) (by simp[execOp,hop,Op.unary,Zk hr]) hs (.c rfl (.bool true))};{rename_i b hx;rw[hx] at hr;exact fin _ (.bool (!(b ()))) (by simp[execOp,hop,Op.unary,aL hr]) hs (t6 _)};{rename_i b hx;rw[hx] at hr;exact fin _ (.bool (b ())) (by simp[execOp,hop,Op.unary,bW hr]) hs (rZ _)};{rename_i k n hx;rw[hx] at hr;obtain⟨pv,h1,h2⟩:=nX (w:=w) (S:=S) (β:=β) hs;exact fin pv _ (by simp[execOp,hop,Op.unary,vJ hr,Op.intArith]) h1 h2};grind}
 ·rename_i src dst x hop;cases hno:(ty src).isNo with
  |true=>grind| false =>
   simp only[hno,cond_false] at hs;split at hs;{rename_i k z k' n ht hx;have hr:=he x;rw[hx] at hr;obtain⟨d,hd⟩:=Sw hno;obtain⟨i,d',zv,_,h2,_,_,_,_,_,h8,_⟩:=YK ht;have h8:=h8 k z rfl;subst h8;refine fin _ _ ?_ hs (aJ k (λ_=>nx k (n ())));cases d <;> simp[execOp,hop,convert,run_underlying hd,run_underlying h2,vJ hr,Conv.intToInt,nx]};{rename_i els ht hx;have hr:=he x;rw[hx] at hr;obtain⟨⟨e,h1,h2⟩,h3,ns,h4,h5⟩:=hs.h;obtain⟨a,ln,cap,hv,hb⟩:=JY h4 (rF hr);exact fin _ (.string (Yu ns)) (by simp[execOp,hop,hv,run_convert_bytes_string w src dst e a ln cap h1 h2 h3,hb]) h5 (.c rfl (.str _))};grind
 {rename_i t x i hop;split at hs;{rename_i n fs z ht;split at hs;{rename_i off sz ag hi;have hr:=he x;split at hs;{rename_i m o' hx;rw[hx] at hr;obtain⟨b,hβ,hv⟩:=qW hr;exact fin _ _ (by simp[execOp,hop,hv,dX ht hi]) hs (.ptr hβ)};{rename_i m s j o' hx;rw[hx] at hr;obtain⟨b,hβ,hv⟩:=kQ hr;exact fin _ (.pointer (some ⟨b,j ()*s+(o'+off),none⟩)) (by simp[execOp,hop,hv,dX ht hi,Zb]) hs (.aptr hβ)};{rename_i cs o' hx;rw[hx] at hr;obtain⟨b,oo,vals,hS,hv,hf,hc,hrr⟩:=aK hr;exact fin _ (.pointer (some ⟨b,oo+(o'+off),none⟩)) (by simp[execOp,hop,hv,dX ht hi,Zb]) hs (.dptr vals hS hf hc hrr)};grind};grind};grind}
 ·rename_i t x i hop;split at hs
  ·rename_i n fs z ht;split at hs
   ·rename_i off sz ag hi;obtain⟨inf,fields,zs,h1,h2,h3,h4,h5,h6,h7,h8⟩:=YJ ht;rw[h6,Za] at hi;obtain⟨f,hf,hfe⟩:=VP.1 hi;cases ag with
    |false =>
     simp only at hs;simp only[Prod.mk.injEq] at hfe;obtain⟨q1,q2,q3⟩:=hfe;split at hs
     ·rename_i cs hx;have hr:=he x;rw[hx] at hr;cases hle:(nqb sz 1&&nlt off cs.length) with
      |false=>grind| true =>
       (rw[hle] at hs;simp only[yZ] at hle;have hs1:=xE hle.1;have hlt:off<cs.length:=by simp_all);obtain⟨vs,hv,hl,hrr⟩:=qJ hr
       (obtain⟨j,hj,hjs⟩:=qC (t:=f.type) (h8 f (z8 hf));obtain⟨fields',hu',hU⟩:=Sx ht;rw[h2] at hu';cases hu';obtain⟨d,hd⟩:=Gq.1 (hU f (z8 hf));have hd':=rU hd w;rw[q3] at hd';have hfa:fields[i]?=some f:=by grind);have hlv:off<vs.size:=by omega
       (refine fin _ (vs.getD off undef) ?_ hs (hrr off oM);have hj1:j.size=1:=by omega);simp[execOp,hop,hv,Instr.field,run_underlying h2,hfa,asAgg,part,hd',uB hj,hj1,q1,hlv]
     grind
    |true =>
     simp only at hs;simp only[Prod.mk.injEq] at hfe;obtain⟨q1,q2,q3⟩:=hfe;split at hs
     ·rename_i cs hx;have hr:=he x;rw[hx] at hr;cases hle:nle (off+sz) cs.length with
      |false=>grind| true =>
       (simp only[hle] at hs;have hle:off+sz<=cs.length:=by simp_all);obtain⟨vs,hv,hl,hrr⟩:=qJ hr
       obtain⟨j,hj,hjs⟩:=qC (t:=f.type) (h8 f (z8 hf));obtain⟨d,hd⟩:∃ d,Pg.underlying f.type=some d:=by unfold jQ at q3;grind
       (have hd':=rU hd w;rw[q3] at hd';have hfa:fields[i]?=some f:=by grind);refine fin _ (.agg (vs.extract off (off+sz))) ?_ hs (.agg ?_ ?_)
       {simp[execOp,hop,hv,Instr.field,run_underlying h2,hfa,asAgg,part,hd',uB hj,hjs,q1,q2]};{grind}
       ·(intro k hk;have hk':k<sz:=by grind);have:=hrr (off+k) oM
        (have e1:(vs.extract off (off+sz)).getD k undef=vs.getD (off+k) undef:=by simp only[Gp];grind);grind
     grind
   grind
  grind
 ·rename_i t x i hop;split at hs;{rename_i n b z els k kv ht hx hi;obtain⟨inf,el,j,zv,h1,h2,h3,h4,h5,h6,h7,h8,h9,h10,h11,h12⟩:=qM ht;have hr:=he x;have hri:=he i;rw[hx] at hr;rw[hi] at hri;obtain⟨hk0,c,hcf,hcl,hck,hK⟩:=hs.h;obtain⟨bb,oo,cap,hv,hlt,hrep⟩:=Az (β:=β) (rF hr) h10 hcf hcl hck;refine fin _ _ ?_ hK hrep;have:=sS (w:=w) h4 h5 bb oo (els ()).length cap k (kv ()) hk0 oM;rw[h7] at this;simp[execOp,hop,hv,vJ hri,this]}
  ·rename_i n b z m s o' len k kv ht hx hi;obtain⟨inf,el,j,zv,h1,h2,h3,h4,h5,h6,h7,h8,h9,h10,h11,h12⟩:=qM ht;have hr:=he x;have hri:=he i;rw[hx] at hr;rw[hi] at hri;cases hss:nqb n s with
   |false=>grind| true =>
    simp only[hss,cond_true] at hs;have:=xE hss;subst this;obtain⟨hrg,hK⟩:=hs;rcases j3 hr with⟨_,_,hl0,_⟩|⟨bb,cap,vs,T,hβ,hlc,hb,hsz,hv⟩;{have:=hrg.lo;have:=hrg.hi;omega};{refine fin _ _ ?_ hK (.aptr hβ);have:=sS (w:=w) h4 h5 bb (o' ()*n) (len ()) cap k (kv ()) hrg.lo hrg.hi;rw[h7] at this;simp[execOp,hop,hv,vJ hri,this,jZ]}
  {rename_i len n ag z m o' k kv ht hx hi;obtain⟨inf,el,zs,h1,h2,h3,h4,h5,h6,h7,h8,h8',h8'',h9⟩:=lN ht;have hr:=he x;have hri:=he i;rw[hx] at hr;rw[hi] at hri;obtain⟨jj,hj1,hj2,hK⟩:=hs.h;obtain⟨b,hβ,hv⟩:=qW hr;obtain⟨j,hj,hjs⟩:=qC (t:=el) oM;refine fin _ _ ?_ hK (.ptr hβ);have:=eD (w:=w) h2 hj b o' k (kv ()) oM oM;rw[hjs,h6,hj1] at this;simp[execOp,hop,hv,vJ hri,hj1,this]};grind
 ·rename_i t x i hop;split at hs
  ·rename_i len z cs k kv ht hx hi;obtain⟨inf,el,zs,h1,h2,h3,h4,h5,h6,h7,h8,h8',h8'',h9⟩:=lN ht;have hr:=he x;have hri:=he i;rw[hx] at hr;rw[hi] at hri;cases hll:nqb len cs.length with
   |false=>grind| true =>
    (simp only[hll,cond_true] at hs;have hll:=xE hll;obtain⟨jj,hj1,hj2,hK⟩:=hs.h;obtain⟨vs,hv,hl,hrr⟩:=qJ hr;obtain⟨j,hj,hjs⟩:=qC (t:=el) oM;have hs1:j.size=1:=by omega);obtain⟨d,hd⟩:=Gq.1 h8''
    (have hlt:jj<vs.size:=by omega);refine fin _ (vs.getD jj undef) ?_ hK (hrr jj oM)
    have hd':=rU hd w;rw[h7] at hd';simp[execOp,hop,hv,vJ hri,hj1,Instr.index,asIntOf,run_underlying h2,hj2,uB hj,hs1,part,hd',hlt]
  grind
 ·rename_i x i hop;have hr:=he x;split at hs
  ·rename_i vs hx;rw[hx] at hr;cases hlt:nlt i vs.length with
   |false=>grind| true =>
    (simp only[hlt,cond_true] at hs;have hlt:i<vs.length:=by simp_all);obtain⟨us,hv,hl,hrr⟩:=gZ hr
    (have hlu:i<us.size:=by omega);exact fin _ (us.getD i undef) (by simp[execOp,hop,hv,Instr.extract,hlu]) hs (hrr i hlt)
  grind
 ·rename_i t x lo hi hop;have hr:=he x;split at hs;{rename_i n b z els ht hx;obtain⟨inf,el,j,zv,h1,h2,h3,h4,h5,h6,h7,h8,h9,h10,h11,h12⟩:=qM ht;rw[hx] at hr;split at hs;{rename_i l hh hl hhh;obtain⟨hok,hw,hK⟩:=hs;have hl':=dD he hl;have hh':=dD he hhh;have:=hok.lo;have:=hok.mid;have:=hok.hi;obtain⟨aa,cap,hv,hcap,hrep⟩:=Jb (rF hr) hw.h (l:=(l ()).toNat) (h:=(hh ()).toNat) oM oM;refine fin _ _ ?_ hK (.c rfl hrep);have:=rE (w:=w) (ρ:=a.eval) (a:=aa) h4 h5 hcap hok.lo hok.mid hok.hi (hl'.imp (λh=>⟨h.1,by rw[h.2]⟩) id) (hh'.imp (λh=>⟨h.1,by rw[h.2]⟩) id);rw[h7] at this;simp only[execOp,hop,hv,Sem.run_bind,this,Result.andThen_ok,Sem.run_pure]};grind}
  ·rename_i n b z m s o' len ht hx;obtain⟨inf,el,j,zv,h1,h2,h3,h4,h5,h6,h7,h8,h9,h10,h11,h12⟩:=qM ht;rw[hx] at hr;split at hs
   ·rename_i l hh hl hhh;cases hss:nqb n s with
    |false=>grind| true =>
     simp only[hss,cond_true] at hs;have:=xE hss;subst this;obtain⟨hok,hne,hK⟩:=hs;have hl':=dD he hl;have hh':=dD he hhh;have:=hok.lo;have:=hok.mid;have:=hok.hi;have:=hne.lt;rcases j3 hr with⟨_,_,hl0,_⟩|⟨bb,cap,vs,T,hβ,hlc,hb,hsz,hv⟩;{omega};{refine fin _ _ ?_ hK (.osl (cap:=cap-(l ()).toNat) hβ oM hb ?_);{have:=rE (w:=w) (ρ:=a.eval) (a:=some ⟨bb,o' ()*n,none⟩) h4 h5 hlc hok.lo hok.mid hok.hi (hl'.imp (λh=>⟨h.1,by rw[h.2]⟩) id) (hh'.imp (λh=>⟨h.1,by rw[h.2]⟩) id);rw[h7,if_neg oM] at this;simp only[Option.map_some,j1,<-jZ] at this;simp only[execOp,hop,hv,Sem.run_bind,this,Result.andThen_ok,Sem.run_pure]};grind}
   grind
  ·rename_i n b z ht hx;obtain⟨inf,el,j,zv,h1,h2,h3,h4,h5,h6,h7,h8,h9,h10,h11,h12⟩:=qM ht;rw[hx] at hr;have hv:=g8 hr;split at hs
   ·(rename_i l hh hl hhh;obtain⟨hok,hK⟩:=hs;have hl':=dD he hl;have hh':=dD he hhh;have:=hok.lo;have:=hok.mid;have:=hok.hi;refine fin _ _ ?_ hK .nil;have:=rE (w:=w) (ρ:=a.eval) (a:=none) h4 h5 (yC 0) hok.lo hok.mid hok.hi (hl'.imp (λh=>⟨h.1,by rw[h.2]⟩) id) (hh'.imp (λh=>⟨h.1,by omega⟩) id);have e1:(l ()).toNat=0:=by omega);have e2:(hh ()).toNat=0:=by omega
    rw[e1,e2,if_pos rfl] at this;simp only[execOp,hop,hv,Sem.run_bind,this,Result.andThen_ok,Sem.run_pure]
   grind
  grind
 {rename_i x hop;have hr:=he x;split at hs;{rename_i n o' hx;rw[hx] at hr;obtain⟨b,hβ,hv⟩:=qW hr;exact fin _ _ (by simp[execOp,hop,hv]) hs (.ptr hβ)};{rename_i n s i o' hx;rw[hx] at hr;obtain⟨b,hβ,hv⟩:=kQ hr;exact fin _ _ (by simp[execOp,hop,hv]) hs (.aptr hβ)};{rename_i c o' hx;rw[hx] at hr;obtain⟨b,oo,vals,hS,hv,hf,hc,hrr⟩:=aK hr;exact fin _ _ (by simp[execOp,hop,hv]) hs (.dptr vals hS hf hc hrr)};grind}
 ·(rename_i f first caps hop);split at hs
  ·(rename_i hfe;have hf0:first=#[]:=by grind);have hc:=Yr he caps.toList
   refine fin _ (.func (.func f) #[] (caps.toList.map a.eval).toArray) ?_ hs (.fn hc.1 hc.2);have:caps.map a.eval=(caps.toList.map a.eval).toArray:=Array.ext' (by simp);simp[execOp,hop,Instr.makeFunc,hf0,<-this]
  grind
 ·rename_i c hop;split at hs
  ·rename_i hcl;split at hs
   ·(rename_i x t hx ht;have hr:=he x;have ha:c.args=#[x]:=by grind);have hta:c.argTypes=#[t]:=by grind
    unfold Pp at hs;split at hs
    ·rename_i n b z hty;obtain⟨inf,el,j,zv,h1,h2,h3,h4,_⟩:=qM hty;split at hs
     ·rename_i els hxe;rw[hxe] at hr;have:=rF hr;obtain⟨aa,cap,hv,_⟩:∃ aa cap,a.eval x=.slice aa (els ()).length cap/\True:=by
       rcases g9 this with⟨e0,aa,cap,hv⟩|⟨bb,oo,cap,s,vals,_,_,_,_,_,_,_,hv⟩
       all_goals grind
      exact fin _ (.int .i64 ((els ()).length:Nat)) (by simp[execOp,hop,resolve,hcl,invoke,Go.builtin,ha,hta,hv,Builtin.len_,run_underlying h4,goInt]) hs (aJ .i64 (λ_=>(((els ()).length:Nat):Int)))
     ·rename_i m s o' l hxe;rw[hxe] at hr;obtain⟨aa,cap,hv⟩:∃ aa cap,a.eval x=.slice aa (l ()) cap:=by
       rcases j3 hr with⟨_,_,hl0,aa,hv⟩|⟨bb,cap,vs,T,hβ,hlc,hb,hsz,hv⟩
       all_goals grind
      exact fin _ (.int .i64 (l ():Nat)) (by simp[execOp,hop,resolve,hcl,invoke,Go.builtin,ha,hta,hv,Builtin.len_,run_underlying h4,goInt]) hs (aJ .i64 (λ_=>((l ():Nat):Int)))
     {rename_i hxe;rw[hxe] at hr;have hv:=g8 hr;exact fin _ (.int .i64 0) (by simp[execOp,hop,resolve,hcl,invoke,Go.builtin,ha,hta,hv,Builtin.len_,run_underlying h4,goInt]) hs (aJ .i64 (λ_=>0))};{rename_i hxe;rw[hxe] at hr;obtain⟨aa,hv⟩:=eJ hr;exact fin _ (.int .i64 0) (by simp[execOp,hop,resolve,hcl,invoke,Go.builtin,ha,hta,hv,Builtin.len_,run_underlying h4,goInt]) hs (aJ .i64 (λ_=>0))};grind
    grind
   grind
  ·rename_i hcl;split at hs
   ·(rename_i x y hx;have ha:c.args=#[x,y]:=by grind);split at hs
    {rename_i k b hxe hye;have hr:=he x;have hr2:=he y;rw[hxe] at hr;rw[hye] at hr2;refine fin _ (.int .i64 (imax (k ()) (b ()))) ?_ hs (aJ .i64 (λ_=>imax (k ()) (b ())));simp[execOp,hop,resolve,hcl,invoke,Go.builtin,ha,vJ hr,vJ hr2,Builtin.max_,Builtin.max2,imax]};grind
   grind
  ·rename_i hcl;split at hs
   ·(rename_i x y hx;have ha:c.args=#[x,y]:=by grind);split at hs
    {rename_i k b hxe hye;have hr:=he x;have hr2:=he y;rw[hxe] at hr;rw[hye] at hr2;refine fin _ (.int .i64 (imin (k ()) (b ()))) ?_ hs (aJ .i64 (λ_=>imin (k ()) (b ())));simp[execOp,hop,resolve,hcl,invoke,Go.builtin,ha,vJ hr,vJ hr2,Builtin.min_,Builtin.min2,imin]};grind
   grind
  {rename_i f hcl;split at hs;{rename_i g caps hf;exact mP hop hcl h hf (hs.h.resolve_right λq=>by cases q.1) hk};grind};grind
 grind
end
end Go.Proofs.YtaeaffgjdcigoaaGreat
