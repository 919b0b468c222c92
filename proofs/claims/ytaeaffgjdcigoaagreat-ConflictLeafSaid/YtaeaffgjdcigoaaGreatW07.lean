/- A part of the proof: PmJ. -/
import Derived.Test.YtaeaffgjdcigoaaGreatW06
set_option linter.all false
namespace Go.Proofs.YtaeaffgjdcigoaaGreat
open Go
section
variable {w0:World} {S0:Nat->Nat->Prop} {K0:Nat->Prop} {N:Cx} {τ:Nat->PV} {objs:List (Nat×Obj')} {a:Act} {w:World} {S S':Nat->Nat->Prop} {β:Bm}
theorem Evo.refl:Evo S w w:=⟨λ_ _ _=>rfl,λb vs T h=>⟨vs,h,rfl⟩⟩
theorem Rep.mono {v pv}(h:Rep w S β v pv)(hS:∀ b i,S b i->S' b i):Rep w S' β v pv:=h.evo Evo.refl hS
theorem uK (f:PV->PV)(hf:f .any=.any):∀ (l:List (Nat×PV)) (t:Nat),zE (vZ f l) t=f (zE l t)
 |[],t=>by simp[vZ,zE,hf]| (u,v)::r,t=>by
  simp only[vZ,zE];cases nqb u t with
  |true=>rfl| false=>exact uK f hf r t
theorem zN (f:PV->PV):∀ (l:List PV),(w5 f l).length=l.length
 |[]=>rfl| v::r=>by simp[w5,zN f r]
theorem yK (f:PV->PV)(hf:f .any=.any):∀ (l:List PV) (j:Nat),(w5 f l).getD j .any=f (l.getD j .any)
 |[],j=>by simp[w5,hf]| v::r,0=>by simp[w5]| v::r,j+1=>by simpa[w5] using yK f hf r j
theorem fM {f:PV->Prop}(hf:f .any):∀ {cs:List PV},Vu f cs->∀ j,f (cs.getD j .any)
 |[],_,j=>by grind| c::cs,h,0=>by simpa using h.1| c::cs,h,j+1=>by simpa using fM hf h.2 j
def szO:Obj'->Nat
 |.box cs=>cs.length| .arr s els=>(els ()).length*s| .log s els=>(els ()).length*s| .lent s els=>(els ()).length*s| .mat _ _ _=>0| .mp _ _=>0
theorem oI {n s:Nat}{els:Unit->List (List D)}{o:Obj'}(hr:Vj o=some (s,els))(h:ObjAt w S β n o):RowAt w S β n s els:=by
 cases o with
 |box cs=>cases hr
 |arr s' e=>cases hr;exact h
 |log s' e=>cases hr;exact h
 |lent s' e=>cases hr;exact h.1
 |mat s' r q=>cases hr
 |mp t k=>cases hr
theorem JR {s:Nat}{els:Unit->List (List D)}{o:Obj'}(hr:Vj o=some (s,els)):szO o=(els ()).length*s:=by
 cases o with
 |box cs=>cases hr
 |arr s' e=>cases hr;rfl
 |log s' e=>cases hr;rfl
 |lent s' e=>cases hr;rfl
 |mat s' r q=>cases hr
 |mp t k=>cases hr
structure FrzAt (w:World) (S S':Nat->Nat->Prop) (β:Bm) (n:Nat) (o:Obj'):Prop where
 sub:∀ b i,S b i->S' b i
 new:∀ b,β n=some b->∀ i,i<szO o->S' b i
 at_:ObjAt w S β n o
 cl:Y0 o=true
theorem Bp {n:Nat}{o:Obj'}(F:FrzAt w S S' β n o){v pv}(h:Rep w S β v pv)(hf:fo0 n o pv):Rep w S' β v (fz0 n o pv):=by
 have hm:=h.mono F.sub;cases pv with
 |agg cs=>exact xX _| tup cs=>exact xX _| fn f cs=>exact xX _| ptr m off =>
  simp only[fz0];cases hb:nqb m n with
  |false=>exact hm| true =>
   have:=y5 hb;subst this;simp only[cond_true];cases o with
   |arr s els=>exact xX _| log s els=>exact xX _| lent s els=>exact xX _| mat s r q=>exact xX _| mp t k=>exact xX _| box cs =>
    obtain⟨b,hβ,rfl⟩:=kM h;obtain⟨b',vs,T,hβ',hw,hsz,hr⟩:=F.at_;rw[hβ] at hβ';cases hβ';have hcl:=F.cl;simp only[Y0] at hcl;have hfl:yT qO (w5 WG cs)=true:=by
     have:∀ (l:List PV),yT iM l=true->yT qO (w5 WG l)=true:=by
      intro l;induction l with
      |nil=>intro _;rfl
      |cons c l ih =>
       intro h;simp only[yT,yP,w5] at h ⊢;exact⟨by cases c <;> simp_all [iM,WG,qO],ih h.2⟩
     grind
    show Rep w S' β _ (.dptr (w5 WG cs) off)
    suffices key:Rep w S' β (.pointer (some ⟨b,0+off,none⟩)) (.dptr (w5 WG cs) off) by grind
    refine Rep.dptr (o:=0) (λj=>vs.getD j undef) (λj hj=>F.new b hβ _ (by grind [zN,szO])) hfl (λj hj=>?_) (λj hj=>?_);{rw[zN] at hj;rw[jW];grind [cW]}
    ·(rw[zN] at hj;rw[yK _ rfl];have h1:=mQ ((hr j hj).mono F.sub) (xV rfl hcl j);have h2:∀ x:PV,toD (WG x)=toD x:=by intro x;cases x <;> rfl);grind
 |aptr m s i off =>
  simp only[fz0];cases hb:nqb m n with
  |false=>exact hm| true=>exact xX _
 |mpv m=>simp only[fz0];cases nqb m n <;> first|exact hm|exact xX _
 |osl m s i len =>
  simp only[fz0];cases hb:nqb m n with
  |false=>exact hm| true =>
   have:=y5 hb;subst this;simp only[cond_true];cases hro:Vj o with
   |none=>exact xX _| some p =>
    obtain⟨s',els⟩:=p;simp only[fo0,hb,hro] at hf;have hf:=hf.h;show Rep w S' β v ((match nqb s s' with|true=>PV.sl (λ_=>((els ()).drop (i ())).take (len ()))|false=>.any));cases hss:nqb s s' with
    |false=>exact xX _| true =>
     have:=y5 hss;subst this;simp only[cond_true];refine .c rfl ?_;simp only[toD];rcases j2 h with⟨hn,ho,hl,aa,rfl⟩|⟨b,cap,vs,T,hβ,hlc,hw,hsz,rfl⟩;{rw[hl];simpa using RepD.sl0 _ _}
     ·rcases oI hro F.at_ with⟨hn,_⟩|⟨b',vs',T',hβ',hw',hsz',hwid,hr⟩;{grind}
      ·(rw[hβ] at hβ';cases hβ';rw[hw] at hw';cases hw';have hlen:(((els ()).drop (i ())).take (len ())).length=len ():=by grind);by_cases h0:len ()=0
       {rw[h0];simpa using RepD.sl0 _ _}
       ·(have hg:∀ k,k<len ()->(((els ()).drop (i ())).take (len ())).getD k []=(els ()).getD (i ()+k) []:=by grind);have key:=RepD.sl (w:=w) (S:=S') (b:=b) (o:=i ()*s) (cap:=cap) (s:=s) (els:=((els ()).drop (i ())).take (len ())) (λk j=>vs.getD ((i ()+k)*s+j) undef)
         (by grind) oM
         (λk j hk hj=>F.new b hβ _ (by
          rw[hlen] at hk;rw[JR hro];have:(i ()+k)*s+s<=(els ()).length*s:=by
           calc (i ()+k)*s+s=(i ()+k+1)*s:=by grind
            _<=_:=kG _ oM
          grind))
         (λe he=>hwid e (Uu (aE he)))
         (λk j hk hj=>by
          rw[hlen] at hk;have hlt:(i ()+k)*s+j<vs.size:=by
           have:(i ()+k)*s+s<=(els ()).length*s:=by
            calc (i ()+k)*s+s=(i ()+k+1)*s:=by grind
             _<=_:=kG _ oM
           omega
          rw[<-cW hw _ hlt,jI])
         (λk j hk hj=>by grind)
         (λk j hk hj=>by rw[hlen] at hk;rw[hg k hk];exact ((hr (i ()+k) j oM hj).1).evo (λ_ _ _=>rfl) F.sub)
        grind
 |int k x=>exact hm| tt=>exact hm| ff=>exact hm| bool b=>exact hm| nbool b=>exact hm| str x=>exact hm| nil=>exact hm| sl e=>exact hm| dptr cs o=>exact hm| nilf=>exact hm| nilp=>exact hm| emp=>exact hm| any=>exact hm
theorem Mg {n:Nat}{o:Obj'}(F:FrzAt w S S' β n o){v pv}(h:Rep w S β v pv)(hf:fo1 n o pv):Rep w S' β v (fz1 n o pv):=by
 cases pv with
 |agg cs =>
  obtain⟨vs,rfl,h1,h2⟩:=qU h;exact .agg (by grind [zN]) λj hj=>by rw[zN] at hj;rw[yK _ rfl];exact Bp F (h2 j hj) (fM trivial hf j)
 |tup cs =>
  obtain⟨vs,rfl,h1,h2⟩:=fR h;exact .tup (by grind [zN]) λj hj=>by rw[zN] at hj;rw[yK _ rfl];exact Bp F (h2 j hj) (fM trivial hf j)
 |fn f cs =>
  obtain⟨vs,rfl,h1,h2⟩:=gX h;exact .fn (by grind [zN]) λj hj=>by rw[zN] at hj;rw[yK _ rfl];exact Bp F (h2 j hj) (fM trivial hf j)
 |_=>exact Bp F h hf
theorem Bo {n:Nat}{o:Obj'}(F:FrzAt w S S' β n o){v pv}(h:Rep w S β v pv)(hf:fo n o pv):Rep w S' β v (frz n o pv):=by
 cases pv with
 |agg cs =>
  obtain⟨vs,rfl,h1,h2⟩:=qU h;exact .agg (by grind [zN]) λj hj=>by rw[zN] at hj;rw[yK _ rfl];exact Mg F (h2 j hj) (fM trivial hf j)
 |tup cs =>
  obtain⟨vs,rfl,h1,h2⟩:=fR h;exact .tup (by grind [zN]) λj hj=>by rw[zN] at hj;rw[yK _ rfl];exact Mg F (h2 j hj) (fM trivial hf j)
 |fn f cs =>
  obtain⟨vs,rfl,h1,h2⟩:=gX h;exact .fn (by grind [zN]) λj hj=>by rw[zN] at hj;rw[yK _ rfl];exact Mg F (h2 j hj) (fM trivial hf j)
 |_=>exact Bp F h hf
theorem vQ (f:PV->PV):∀ {l:List (Nat×Obj')} {n:Nat} {o:Obj'},(n,o)∈xL f l->∃ o',(n,o')∈l/\o=wC f o'
 |(m,o1)::r,n,o,h=>by
  (have e:xL f ((m,o1)::r)=(m,wC f o1)::xL f r:=by cases o1 <;> rfl);rw[e,yG] at h
  rcases h with h|h;{grind};{obtain⟨o',h1,h2⟩:=vQ f h;grind}
theorem g8 (f:PV->PV):∀ (l:List (Nat×Obj')),(xL f l).map Prod.fst=l.map Prod.fst
 |[]=>rfl| (m,o1)::r=>by
  (have e:xL f ((m,o1)::r)=(m,wC f o1)::xL f r:=by cases o1 <;> rfl);rw[e,jH,jH,g8 f r]
theorem o5 (f:PV->PV):∀ {hs:List (PV×(Unit->Nat))} {v:PV} {k:Unit->Nat},(v,k)∈s7 f hs->∃ v',(v',k)∈hs/\v=f v'
 |(u,j)::r,v,k,h=>by simp only[s7,yG] at h;rcases h with h|h;{grind};{obtain⟨v',h1,h2⟩:=o5 f h;grind}
theorem lB (f:PV->PV):∀ {hs:List (PV×(Unit->Nat))} {v:PV} {k:Unit->Nat},(v,k)∈hs->(f v,k)∈s7 f hs
 |(u,j)::r,v,k,h=>by simp only[s7,yG] at h ⊢;rcases h with h|h;{grind};{exact .inr (lB f h)}
theorem jP (f:PV->PV)(o:Obj')(i:Nat):jQ (wC f o) i↔jQ o i:=by
 cases o with
 |mat s rows hs =>
  show (_/\_)↔(_/\_);grind [lB,o5]
 |_=>exact Iff.rfl
theorem qD {f:PV->PV}{n:Nat}{o:Obj'}{b:Nat}(h:Own β n (wC f o) b):Own β n o b:=by rcases h with h|⟨i,h1,h2⟩;{exact .inl h};{exact .inr ⟨i,(jP f o i).1 h1,h2⟩}
theorem CK {f:PV->PV}{n:Nat}{o:Obj'}{b:Nat}(h:Own β n o b):Own β n (wC f o) b:=by rcases h with h|⟨i,h1,h2⟩;{exact .inl h};{exact .inr ⟨i,(jP f o i).2 h1,h2⟩}
theorem pV {f:PV->PV}{o:Obj'}{i:Nat}(h:gK o i):gK (wC f o) i:=by cases o <;> exact h
theorem vR:∀ {l:List (Nat×Obj')} {n m:Nat} {o:Obj'},(m,o)∈v8 l n->(m,o)∈l/\m≠n
 |(u,x)::r,n,m,o,h=>by
  simp only[v8] at h;cases hu:nqb u n with
  |true =>
   simp only[hu,cond_true] at h;obtain⟨h1,h2⟩:=vR h;grind
  |false =>
   simp only[hu,cond_false,yG] at h;rcases h with h|h;{cases h;exact⟨wI,λe=>by simp_all⟩};{obtain⟨h1,h2⟩:=vR h;grind}
theorem nC:∀ (l:List (Nat×Obj')) (n:Nat),((v8 l n).map Prod.fst).Sublist (l.map Prod.fst)
 |[],n=>by simp[v8]| (u,x)::r,n=>by
  simp only[v8];cases nqb u n with
  |true=>exact (nC r n).trans (List.sublist_cons_self _ _)| false=>exact (nC r n).cons_cons _
theorem K9 {n:Nat}{o:Obj'}:∀ {l:List (Nat×PV)},foT n o l->∀ t,fo n o (zE l t)
 |[],_,t=>trivial| (u,v)::r,h,t=>by
  simp only[zE];cases nqb u t with
  |true=>exact h.1| false=>exact K9 h.2 t
theorem Ja {n u:Nat}{o o1:Obj'}{r:List (Nat×Obj')}(h:foO n o ((u,o1)::r)):foO n o r:=by cases o1 <;> first|exact h|exact h.2
theorem G3 {n:Nat}{o:Obj'}:∀ {l:List (Nat×Obj')},foO n o l->∀ {m cs},(m,Obj'.box cs)∈l->Vu (fo n o) cs
 |(u,o1)::r,h,m,cs,hm=>by rcases yG.1 hm with hm|hm;{cases hm;exact h.1};{exact G3 (Ja h) hm}
theorem Jb {n:Nat}{o:Obj'}:∀ {l:List (Nat×Obj')},foO n o l->∀ {m s rows hs},(m,Obj'.mat s rows hs)∈l->foH n o hs
 |(u,o1)::r,h,m,s,rows,hs,hm=>by rcases yG.1 hm with hm|hm;{cases hm;exact h.1};{exact Jb (Ja h) hm}
theorem G4 {n:Nat}{o:Obj'}:∀ {hs:List (PV×(Unit->Nat))},foH n o hs->∀ {v k},(v,k)∈hs->fo n o v
 |(u,j)::r,h,v,k,hm=>by rcases yG.1 hm with hm|hm;{cases hm;exact h.1};{exact G4 h.2 hm}
theorem RowIn.mono {ob:Option Nat}{v:Value}{s:Nat}{els:List (List D)}(h:RowIn w S ob v s els)(hS:∀ b i,S b i->S' b i):RowIn w S' ob v s els:=by rcases h with h|⟨b,cap,us,T,h1,h2,h3,h4,h5,h6,h7⟩;{exact .inl h};{exact .inr ⟨b,cap,us,T,h1,h2,h3,h4,h5,h6,λi j hi hj=>⟨(h7 i j hi hj).1.evo (λ_ _ _=>rfl) hS,(h7 i j hi hj).2⟩⟩}
theorem MatAt.map {n s:Nat}{rows:Unit->List (List (List D))}{hs:List (PV×(Unit->Nat))}{f:PV->PV}(h:MatAt w S β n s rows hs)(hS:∀ b i,S b i->S' b i)(hf:∀ v x k,(x,k)∈hs->Rep w S β v x->Rep w S' β v (f x)):MatAt w S' β n s rows (s7 f hs):=by have hr:=jP f (.mat s rows hs);obtain⟨hp,h5,h6⟩:=h;refine⟨?_,λi j b hi hj=>h5 i j b ((hr i).1 hi) ((hr j).1 hj),λi b hi=>h6 i b ((hr i).1 hi)⟩;rcases hp with⟨e1,e2,e3⟩|⟨b,vs,T,h1,h2,h3,h4,h7⟩;{subst e3;exact .inl ⟨e1,e2,rfl⟩};{refine .inr ⟨b,vs,T,h1,h2,h3,λv k hk=>?_,λi hi=>(h7 i ((hr i).1 hi)).mono hS⟩;obtain⟨v',g1,rfl⟩:=o5 f hk;grind}
theorem RowAt.mono {n s:Nat}{els:Unit->List (List D)}(h:RowAt w S β n s els)(hS:∀ b i,S b i->S' b i):RowAt w S' β n s els:=by rcases h with e|⟨b,vs,T,e1,e2,e3,e4,e5⟩;{exact .inl e};{exact .inr ⟨b,vs,T,e1,e2,e3,e4,λi j hi hj=>⟨(e5 i j hi hj).1.evo (λ_ _ _=>rfl) hS,(e5 i j hi hj).2⟩⟩}
theorem ObjAt.mono {n:Nat}{o:Obj'}(h:ObjAt w S β n o)(hS:∀ b i,S b i->S' b i):ObjAt w S' β n o:=by
 cases o with
 |box cs=>obtain⟨b,vs,T,e1,e2,e3,e4⟩:=h;exact⟨b,vs,T,e1,e2,e3,λj hj=>(e4 j hj).mono hS⟩
 |arr s els=>exact RowAt.mono h hS| log s els=>exact RowAt.mono h hS| lent s els=>exact⟨RowAt.mono h.1 hS,h.2.mono hS⟩| mp t k=>exact h| mat s rows hs =>
  obtain⟨hp,h5,h6⟩:=h;refine⟨?_,h5,h6⟩;rcases hp with hp|⟨b,vs,T,h1,h2,h3,h4,h7⟩;{grind};{exact .inr ⟨b,vs,T,h1,h2,h3,λv k hk=>⟨(h4 v k hk).1,(h4 v k hk).2.mono hS⟩,λi hi=>(h7 i hi).mono hS⟩}
theorem Sim.frz {ps:PS}(h:Sim w0 S0 K0 N (zE ps.tmps) ps.objs a w S β){n:Nat}{o:Obj'}(ho:yN ps.objs n=some o)(hc:Y0 o=true)(hT:foT n o ps.tmps)(hO:foO n o ps.objs):∃ S' β',Sim w0 S0 K0 N (zE (K8 n o ps).tmps) (K8 n o ps).objs a w S' β':=by
 have hmem:=xU ho;have F:FrzAt w S (λb i=>S b i\/β n=some b) β n o:=⟨λb i=>.inl,λb h i _=>.inr h,h.obj.at_ n o hmem,hc⟩;refine⟨λb i=>S b i\/β n=some b,β,⟨h.dfr,h.sz,?_,?_,?_,?_,?_⟩⟩
 ·refine⟨h.ld.size,h.ld.os,h.ld.tape,h.ld.output,h.ld.same,h.ld.shape,?_,?_,?_⟩;{rintro b i (hS|hβ);{exact h.ld.bnd b i hS};{exact (h.obj.un n o b hmem (.inl hβ)).2}};{exact λb i hb hS=>.inl (h.ld.sub b i hb hS)}
  ·rintro b i hb hk (hS|hβ);{exact h.ld.old b i hb hk hS}
   ·rcases h.own n o b hmem (.inl hβ) with h'|h'
    all_goals grind
 {intro t;simp only[K8];rw[uK _ rfl];exact Bo F (h.tmp t) (K9 hT t)}
 ·refine⟨?_,?_,?_,?_⟩;{simp only[K8,g8];exact (nC _ _).nodup h.obj.nd}
  ·intro m o' hm;obtain⟨o'',h1,h2⟩:=vQ _ hm;obtain⟨h3,h4⟩:=vR h1;have hat:=h.obj.at_ m o'' h3;cases o'' with
   |box cs =>
    subst h2;obtain⟨b,vs,T,e1,e2,e3,e4⟩:=hat;exact⟨b,vs,T,e1,e2,by grind [zN],λj hj=>by rw[zN] at hj;rw[yK _ rfl];exact Bo F (e4 j hj) (fM trivial (G3 hO h3) j)⟩
   |arr s els=>subst h2;exact RowAt.mono hat F.sub| log s els=>subst h2;exact RowAt.mono hat F.sub| lent s els=>subst h2;exact⟨RowAt.mono hat.1 F.sub,hat.2.mono F.sub⟩| mp t k=>subst h2;exact hat| mat s rows hs=>subst h2;exact MatAt.map hat F.sub λv x k hk hv=>Bo F hv (G4 (Jb hO h3) hk)
  {intro m o' b hm hβ;obtain⟨o'',h1,rfl⟩:=vQ _ hm;obtain⟨h3,h4⟩:=vR h1;obtain⟨h5,h6⟩:=h.obj.un m o'' b h3 (qD hβ);refine⟨?_,h6⟩;rintro i (hS|hn);{grind [pV]};{exact absurd (h.obj.inj _ _ _ _ b h3 hmem (qD hβ) (.inl hn)) h4}};{intro m o' m' o'' b hm hm' hβ hβ';obtain⟨x,h1,rfl⟩:=vQ _ hm;obtain⟨y,h2,rfl⟩:=vQ _ hm';exact h.obj.inj _ _ _ _ b (vR h1).1 (vR h2).1 (qD hβ) (qD hβ')}
 {intro m o' b hm hβ;obtain⟨x,h1,rfl⟩:=vQ _ hm;exact h.own m x b (vR h1).1 (qD hβ)};{intro m o' hm hb;obtain⟨x,h1,_⟩:=vQ _ hm;exact h.keep m x (vR h1).1 hb}
theorem rI {f:PV->PV->Prop}(hf:∀ a b,f a b->Le a b):∀ {a b:List PV},jG f a b->LeL a b
 |[],[],_=>by simp[LeL]| x::a,y::b,h=>by simp only[LeL];exact⟨hf _ _ h.1,rI hf h.2⟩| [],y::b,h=>h.elim| x::a,[],h=>h.elim
theorem Qj {a b:PV}(h:KO a b):Le a b:=by unfold KO at h;split at h;{simp only[Le];exact rI (λ_ _ h=>h.h) h};{simp only[Le];exact rI (λ_ _ h=>h.h) h};{exact h.h}
theorem bY {a b:PV}(h:les a b):Le a b:=by unfold les at h;split at h;{grind [Le,rI,Qj]};{grind [Le,rI,Qj]};{grind [Le,y5,rI,Qj]};{exact h.h}
theorem lF {a b:List PV}(h:jG les a b):LeL a b:=rI (λ_ _ h=>bY h) h
theorem KR {src:List (Nat×PV)}:∀ {l:List (Nat×PV)},leT src l->∀ t,Le (zE src t) (zE l t)
 |[],_,t=>by simp[zE,Le]| (u,v)::r,h,t=>by
  simp only[zE];cases hu:nqb u t with
  |true=>have:=y5 hu;subst this;exact bY h.1| false=>exact KR h.2 t
theorem tN {src:List (Nat×Obj')}:∀ {l:List (Nat×Obj')},leO src l->∀ {n o},(n,o)∈l->∃ o',(n,o')∈src/\Vc o' o
 |(u,x)::r,h,n,o,hm=>by simp only[yG] at hm;rcases hm with hm|hm;{cases hm;have h1:=h.1;grind [xU]};{exact tN h.2 hm}
theorem K3 {n:Nat}:∀ {l:List (Nat×Obj')},F5 n l=false->n∉l.map Prod.fst
 |[],_=>by simp| (m,o)::r,h=>by simp only[F5,Fm] at h;simp only[jH,yG,not_or];exact⟨λe=>by simp_all,K3 h.2⟩
theorem fG:∀ {l:List (Nat×Obj')},ndO l=true->(l.map Prod.fst).Nodup
 |[],_=>List.nodup_nil| (n,o)::r,h=>by simp only[ndO,yP,YF] at h;simp only[jH,Zz];exact⟨K3 h.1,fG h.2⟩
theorem Qq:∀ {hs hs':List (PV×(Unit->Nat))},hLe hs hs'->∀ {v k},(v,k)∈hs'->∃ v' k',(v',k')∈hs/\Le v' v/\k' ()=k ()
 |[],[],_,v,k,hm=>by cases hm
 |(x,j)::r,(y,l)::q,h,v,k,hm=>by rcases yG.1 hm with hm|hm;{cases hm;refine⟨x,j,wI,h.1.1.h,?_⟩;have:=h.1.2.h;simp only[Le,true_and] at this;omega};{obtain⟨v',k',h1,h2⟩:=Qq h.2 hm;grind}
 |[],y::q,h,_,_,_=>h.elim| x::r,[],h,_,_,hm=>h.elim
theorem K5:∀ {hs hs':List (PV×(Unit->Nat))},hLe hs hs'->∀ {v k},(v,k)∈hs->∃ v' k',(v',k')∈hs'/\k ()=k' ()
 |[],[],_,v,k,hm=>by cases hm
 |(x,j)::r,(y,l)::q,h,v,k,hm=>by rcases yG.1 hm with hm|hm;{cases hm;refine⟨y,l,wI,?_⟩;have:=h.1.2.h;simp only[Le,true_and] at this;omega};{obtain⟨v',k',h1,h2⟩:=K5 h.2 hm;grind}
 |[],y::q,h,_,_,hm=>h.elim| x::r,[],h,_,_,hm=>h.elim
theorem Ue {s:Nat}{rows:Unit->List (List (List D))}{hs hs':List (PV×(Unit->Nat))}(h:hLe hs hs')(i:Nat):jQ (.mat s rows hs) i↔jQ (.mat s rows hs') i:=by show (_/\_)↔(_/\_);grind [Qq,K5]
inductive ObjLe':Obj'->Obj'->Prop
 |box {a b} (h:LeL a b):ObjLe' (.box a) (.box b)
 |refl (o):ObjLe' o o
 |ll (s els):ObjLe' (.lent s els) (.log s els)
 |mat {s rows hs hs'} (h:hLe hs hs'):ObjLe' (.mat s rows hs) (.mat s rows hs')
theorem XS {o' o:Obj'}(h:Vc o' o):ObjLe' o' o:=by
 cases o' <;> cases o <;> first
  |exact h.elim
  |exact .box (lF h)
  |(obtain⟨hs,he⟩:=h;have:=y5 hs;subst this;cases fU he.h;first|exact .refl _|exact .ll _ _;done)
  |(obtain⟨hs,he,hh⟩:=h;have:=y5 hs;subst this;cases fU he.h;exact .mat hh)
theorem ObjAt.le {n:Nat}{o o':Obj'}(h:ObjAt w S β n o')(hl:Vc o' o):ObjAt w S β n o:=by
 cases XS hl with
 |refl=>exact h| ll s els=>exact h.1| box hq =>
  obtain⟨b,vs,T,e1,e2,e3,e4⟩:=h;exact⟨b,vs,T,e1,e2,e3.trans (uT hq),λj hj=>(e4 j (by grind [uT])).le _ (tE hq j hj)⟩
 | @mat s rows hs hs' hh =>
  obtain⟨hp,h5,h6⟩:=h;have hr:=λi=>Ue (s:=s) (rows:=rows) hh i;refine⟨?_,λi j b hi hj=>h5 i j b ((hr i).2 hi) ((hr j).2 hj),λi b hi=>h6 i b ((hr i).2 hi)⟩;rcases hp with⟨e1,e2,e3⟩|⟨b,vs,T,h1,h2,h3,h4,h7⟩
  ·subst e3;refine .inl ⟨e1,e2,?_⟩;cases hs' with
   |nil=>rfl| cons x r=>exact hh.elim
  {exact .inr ⟨b,vs,T,h1,h2,h3,λv k hk=>by obtain⟨v',k',g1,g2,g3⟩:=Qq hh hk;rw[<-g3];exact⟨(h4 v' k' g1).1,(h4 v' k' g1).2.le _ g2⟩,λi hi=>h7 i ((hr i).2 hi)⟩}
theorem CG {o o':Obj'}(hl:Vc o' o){i:Nat}(h:gK o' i):gK o i:=by
 cases XS hl with
 |refl=>exact h| ll s els=>exact h| box hl=>exact h.elim| mat hh=>exact h.elim
theorem XN {n:Nat}{o o':Obj'}{b:Nat}(hl:Vc o' o)(h:Own β n o b):Own β n o' b:=by
 cases XS hl with
 |refl=>exact h| ll s els=>exact .inl (xC (by intro _ hi;exact hi) h)| box hl=>exact .inl (xC (by intro _ hi;exact hi) h)| mat hh =>
  rcases h with h|⟨i,h1,h2⟩;{exact .inl h};{exact .inr ⟨i,(Ue hh i).2 h1,h2⟩}
theorem Sim.le {ps ps':PS}(h:Sim w0 S0 K0 N (zE ps.tmps) ps.objs a w S β)(ht:leT ps.tmps ps'.tmps)(ho:leO ps.objs ps'.objs)(hn:ndO ps'.objs=true):Sim w0 S0 K0 N (zE ps'.tmps) ps'.objs a w S β where
 dfr:=h.dfr
 sz:=h.sz
 ld:=h.ld
 tmp t:=(h.tmp t).le _ (KR ht t)
 obj:=⟨fG hn,λn o hm=>by obtain⟨o',h1,h2⟩:=tN ho hm;exact (h.obj.at_ n o' h1).le h2,
  λn o b hm hβ=>by obtain⟨o',h1,h2⟩:=tN ho hm;exact⟨λi hS=>CG h2 ((h.obj.un n o' b h1 (XN h2 hβ)).1 i hS),(h.obj.un n o' b h1 (XN h2 hβ)).2⟩,
  λn o m o' b hm hm' hβ hβ'=>by obtain⟨x,h1,g1⟩:=tN ho hm;obtain⟨y,h2,g2⟩:=tN ho hm';exact h.obj.inj _ _ _ _ b h1 h2 (XN g1 hβ) (XN g2 hβ')⟩
 own n o b hm hβ:=by obtain⟨o',h1,g1⟩:=tN ho hm;exact h.own n o' b h1 (XN g1 hβ)
 keep n o hm hb:=by obtain⟨o',h1,_⟩:=tN ho hm;exact h.keep n o' h1 hb
theorem qK {n:Nat}:∀ {l:List (Nat×PV)},pU n l=true->∀ t,xZ n (zE l t)=true
 |[],_,t=>rfl| (u,v)::r,h,t=>by
  simp only[pU,yP] at h;simp only[zE];cases nqb u t with
  |true=>exact h.1| false=>exact qK h.2 t
def cY (n:Nat):Obj'->Prop
 |.box cs=>wN n cs=true| .arr _ _=>True| .log _ _=>True| .lent _ _=>True| .mat _ _ hs=>sT n hs=true| .mp _ _=>True
theorem iB {n u:Nat}{o:Obj'}{r:List (Nat×Obj')}(h:xK n ((u,o)::r)=true):u≠n/\cY n o/\xK n r=true:=by
 cases o with
 |box cs=>simp only[xK,yP] at h;exact⟨dG h.1.1,h.1.2,h.2⟩| arr s els=>simp only[xK,yP] at h;exact⟨dG h.1,trivial,h.2⟩| log s els=>simp only[xK,yP] at h;exact⟨dG h.1,trivial,h.2⟩| lent s els=>simp only[xK,yP] at h;exact⟨dG h.1,trivial,h.2⟩| mp t k=>simp only[xK,yP] at h;exact⟨dG h.1,trivial,h.2⟩| mat s rows hs=>simp only[xK,yP] at h;exact⟨dG h.1.1,h.1.2,h.2⟩
theorem jL {n:Nat}{l:List (Nat×Obj')}(h:xK n l=true):n<1000000:=by
 induction l with
 |nil=>exact Qa (by grind [xK])| cons a r ih=>exact ih (iB (u:=a.1) (o:=a.2) h).2.2
theorem xY {n:Nat}{l:List (Nat×Obj')}(h:xK n l=true):∀ {m o},(m,o)∈l->m≠n/\cY n o:=by
 induction l with
 |nil=>grind| cons a r ih =>
  intro m o hm;obtain⟨h1,h2,h3⟩:=iB (u:=a.1) (o:=a.2) h;grind
theorem tH {n:Nat}:∀ {hs:List (PV×(Unit->Nat))},sT n hs=true->∀ {v k},(v,k)∈hs->xZ n v=true
 |(u,j)::r,h,v,k,hm=>by simp only[sT,yP] at h;rcases yG.1 hm with hm|hm;{grind};{exact tH h.2 hm}
theorem RowAt.upd {n:Nat}{x:Option Nat}{m s:Nat}{els:Unit->List (List D)}(h:RowAt w S β m s els)(hm:m≠n):RowAt w S (fO β n x) m s els:=by rcases h with⟨e0,e⟩|⟨b,vs,T,e1,rest⟩;{exact .inl ⟨by grind [uD],e⟩};{exact .inr ⟨b,vs,T,by grind [uD],rest⟩}
theorem ObjAt.upd {n:Nat}{x:Option Nat}{m:Nat}{o:Obj'}(h:ObjAt w S β m o)(hm:m≠n)(hf:cY n o):ObjAt w S (fO β n x) m o:=by
 cases o with
 |box cs =>
  obtain⟨b,vs,T,e1,e2,e3,e4⟩:=h;exact⟨b,vs,T,by grind [uD],e2,e3,λj hj=>(e4 j hj).upd (xV rfl hf j)⟩
 |arr s els=>exact RowAt.upd h hm| log s els=>exact RowAt.upd h hm| lent s els =>
  obtain⟨h,hst⟩:=h;exact⟨RowAt.upd h hm,λb hb i hi=>hst b (by grind [uD]) i hi⟩
 |mp t k=>exact MapAt.to h (uD hm) λ_ _=>rfl| mat s rows hs =>
  obtain⟨hp,h5,h6⟩:=h;refine⟨?_,h5,λi b hi hb=>by rw[uD hm];exact h6 i b hi hb⟩;rcases hp with⟨e1,e2,e3⟩|⟨b,vs,T,h1,h2,h3,h4,h7⟩;{grind [uD]};{exact .inr ⟨b,vs,T,by grind [uD],h2,h3,λv k hk=>⟨(h4 v k hk).1,(h4 v k hk).2.upd (tH hf hk)⟩,h7⟩}
theorem Sim.freshO {ps:PS}(h:Sim w0 S0 K0 N (zE ps.tmps) ps.objs a w S β){n:Nat}{O:Obj'}(hf:yQ n ps=true)(hO:∀ β':Bm,β' n=none->ObjAt w S β' n O)(hr:∀ i,¬jQ O i):Sim w0 S0 K0 N (zE ps.tmps) (ps.objs++[(n,O)]) a w S (fO β n none):=by
 simp only[yQ,yP] at hf;have hmem:∀ {m o},(m,o)∈ps.objs++[(n,O)]->((m,o)∈ps.objs/\m≠n)\/(m=n/\o=O):=by intro m o hm;simp only[uX,kJ] at hm;rcases hm with hm|hm;{exact .inl ⟨hm,(xY hf.2 hm).1⟩};grind
 refine⟨h.dfr,h.sz,h.ld,λt=>(h.tmp t).upd (qK hf.1 t),⟨?_,?_,?_,?_⟩,?_,?_⟩;{rw[gP,W6];refine⟨h.obj.nd,by simp,?_⟩;intro x hx y hy e;simp at hy;subst hy e;obtain⟨⟨m,o⟩,h1,rfl⟩:=yZ.1 hx;exact (xY hf.2 h1).1 rfl};{intro m o hm;rcases hmem hm with⟨h1,h2⟩|⟨rfl,rfl⟩;{exact (h.obj.at_ m o h1).upd h2 (xY hf.2 h1).2};{exact hO _ xG}};{intro m o b hm hβ;rcases hmem hm with⟨h1,h2⟩|⟨rfl,rfl⟩;{exact h.obj.un m o b h1 (vN h2 hβ)};{have:=xC hr hβ;grind [xG]}};{intro m o m' o' b hm hm' hβ hβ';rcases hmem hm with⟨h1,h2⟩|⟨rfl,rfl⟩;{rcases hmem hm' with⟨h3,h4⟩|⟨rfl,rfl⟩;{exact h.obj.inj _ _ _ _ b h1 h3 (vN h2 hβ) (vN h4 hβ')};{have:=xC hr hβ';grind [xG]}};{have:=xC hr hβ;grind [xG]}};{intro m o b hm hβ;rcases hmem hm with⟨h1,h2⟩|⟨rfl,rfl⟩;{exact h.own m o b h1 (vN h2 hβ)};{have:=xC hr hβ;grind [xG]}};{intro m o hm hb;rcases hmem hm with⟨h1,h2⟩|⟨rfl,rfl⟩;{rw[uD h2];exact h.keep m o h1 hb};{have:=jL hf.2;omega}}
theorem Sim.fresh {ps:PS}(h:Sim w0 S0 K0 N (zE ps.tmps) ps.objs a w S β){n s:Nat}(hf:yQ n ps=true):Sim w0 S0 K0 N (zE ps.tmps) (ps.objs++[(n,.arr s (λ_=>[]))]) a w S (fO β n none):=h.freshO hf (λβ' h=>.inl ⟨h,rfl⟩) λ_ hi=>hi
theorem Sim.setT {ps:PS}(h:Sim w0 S0 K0 N (zE ps.tmps) objs a w S β){t:Nat}{x:PV}(hx:Rep w S β (a.tmps.getD t undef) x):Sim w0 S0 K0 N (zE (uA ps.tmps t x)) objs a w S β :=
 ⟨h.dfr,h.sz,h.ld,λu=>by
  rw[gL];by_cases e:u=t;{grind}
  ·simpa[e] using h.tmp u,h.obj,h.own,h.keep⟩
theorem x6:∀ {l:List (Nat×Obj')} {n:Nat} {x:Obj'} {m:Nat} {o:Obj'},(l.map Prod.fst).Nodup->n∈l.map Prod.fst->(m,o)∈setO l n x->(m=n/\o=x)\/(m≠n/\(m,o)∈l)
 |(u,v)::r,n,x,m,o,hnd,hn,hm=>by
  simp only[jH,Zz] at hnd;simp only[setO] at hm;cases hu:nqb u n with
  |true =>
   have:=y5 hu;grind
  |false =>
   (have hne:u≠n:=λe=>by simp_all);simp only[hu,cond_false,yG] at hm
   rcases hm with hm|hm;{grind}
   ·(have hn':n∈r.map Prod.fst:=by grind);rcases x6 hnd.2 hn' hm with h|⟨h1,h2⟩
    all_goals grind
 |[],n,x,m,o,hnd,hn,hm=>by grind
theorem qM:∀ {l:List (Nat×Obj')} {n:Nat} {x:Obj'},n∈l.map Prod.fst->(setO l n x).map Prod.fst=l.map Prod.fst
 |(u,v)::r,n,x,hn=>by
  simp only[setO];cases hu:nqb u n with
  |true=>simp_all| false =>
   (have hne:u≠n:=λe=>by simp_all);have hn':n∈r.map Prod.fst:=by grind
   simp only[cond_false,jH,qM hn']
 |[],n,x,hn=>by grind
theorem RT:∀ {l:List (Nat×Obj')} {n:Nat} {x y:Obj'},(l.map Prod.fst).Nodup->(n,x)∈l->(n,y)∈l->x=y
 |(u,v)::r,n,x,y,hnd,h1,h2=>by simp only[jH,Zz] at hnd;rcases yG.1 h1 with e1|h1;{grind};{rcases yG.1 h2 with e2|h2;{grind};{exact RT hnd.2 h1 h2}}
theorem Sim.lend {ps:PS}(h:Sim w0 S0 K0 N (zE ps.tmps) ps.objs a w S β){n t:Nat}{o:Obj'}{s:Nat}{els:Unit->List (List D)}(ho:yN ps.objs n=some o)(hr:Vj o=some (s,els))(hf:fo n o (zE ps.tmps t)):∃ S' β',Sim w0 S0 K0 N (zE (uA ps.tmps t (Go.Proofs.YtaeaffgjdcigoaaGreat.frz n o (zE ps.tmps t)))) (Go.Proofs.YtaeaffgjdcigoaaGreat.setO ps.objs n (.log s els)) a w S' β':=by
 have hmem:=xU ho;have hsz:=JR hr;have F:FrzAt w S (λb i=>S b i\/(β n=some b/\i<szO o)) β n o:=⟨λb i=>.inl,λb h i hi=>.inr ⟨h,hi⟩,h.obj.at_ n o hmem,by cases o <;> first|rfl|cases hr⟩;have hpo:∀ i,gK o i->i<szO o:=λi hi=>by cases o <;> first|exact hi.elim|exact hi
 have hnin:n∈ps.objs.map Prod.fst:=yZ.2 ⟨_,hmem,rfl⟩;have h1:Sim w0 S0 K0 N (zE ps.tmps) (Go.Proofs.YtaeaffgjdcigoaaGreat.setO ps.objs n (.log s els)) a w (λb i=>S b i\/(β n=some b/\i<szO o)) β:=by
  refine⟨h.dfr,h.sz,?_,λt=>(h.tmp t).mono F.sub,⟨by rw[qM hnin];exact h.obj.nd,?_,?_,?_⟩,?_,?_⟩
  ·refine⟨h.ld.size,h.ld.os,h.ld.tape,h.ld.output,h.ld.same,h.ld.shape,?_,?_,?_⟩;{rintro b i (hS|hβ);{exact h.ld.bnd b i hS};{exact (h.obj.un n o b hmem (.inl hβ.1)).2}};{exact λb i hb hS=>.inl (h.ld.sub b i hb hS)}
   ·rintro b i hb hk (hS|hβ);{exact h.ld.old b i hb hk hS}
    ·rcases h.own n o b hmem (.inl hβ.1) with h'|h'
     all_goals grind
  {intro m x hm;rcases x6 h.obj.nd hnin hm with⟨rfl,rfl⟩|⟨_,h2⟩;{exact RowAt.mono (oI hr (h.obj.at_ _ o hmem)) F.sub};{exact (h.obj.at_ m x h2).mono F.sub}};{intro m x b hm hβ;rcases x6 h.obj.nd hnin hm with⟨rfl,rfl⟩|⟨hne,h2⟩;{have hβ:=xC (by intro _ hi;exact hi) hβ;refine⟨?_,(h.obj.un _ o b hmem (.inl hβ)).2⟩;rintro i (hS|hS);{have:=hpo i ((h.obj.un _ o b hmem (.inl hβ)).1 i hS);rw[hsz] at this;exact this};{rw[hsz] at hS;exact hS.2}};{refine⟨?_,(h.obj.un m x b h2 hβ).2⟩;rintro i (hS|hS);{exact (h.obj.un m x b h2 hβ).1 i hS};{exact absurd (h.obj.inj _ _ _ _ b h2 hmem hβ (.inl hS.1)) hne}}}
  ·(intro m x m' x' b hm hm' hβ hβ';have key:∀ {m x},(m,x)∈Go.Proofs.YtaeaffgjdcigoaaGreat.setO ps.objs n (.log s els)->Own β m x b->∃ x',(m,x')∈ps.objs/\Own β m x' b:=by intro m x hm hb;rcases x6 h.obj.nd hnin hm with⟨rfl,rfl⟩|⟨_,h2⟩;{exact⟨o,hmem,.inl (xC (by intro _ hi;exact hi) hb)⟩};grind);obtain⟨x1,h1,g1⟩:=key hm hβ;obtain⟨x2,h2,g2⟩:=key hm' hβ';exact h.obj.inj _ _ _ _ b h1 h2 g1 g2
  {intro m x b hm hβ;rcases x6 h.obj.nd hnin hm with⟨rfl,rfl⟩|⟨_,h2⟩;{exact h.own _ o b hmem (.inl (xC (by intro _ hi;exact hi) hβ))};{exact h.own m x b h2 hβ}};{intro m x hm hb;rcases x6 h.obj.nd hnin hm with⟨rfl,rfl⟩|⟨_,h2⟩;{exact h.keep _ o hmem hb};{exact h.keep m x h2 hb}}
 exact⟨_,β,h1.setT (Bo F (h.tmp t) hf)⟩
theorem Sim.pub {ps:PS}(h:Sim w0 S0 K0 N (zE ps.tmps) ps.objs a w S β){n:Nat}{o:Obj'}{s:Nat}{els:Unit->List (List D)}(ho:yN ps.objs n=some o)(hr:Vj o=some (s,els)):∃ S' β',Sim w0 S0 K0 N (zE ps.tmps) (Go.Proofs.YtaeaffgjdcigoaaGreat.setO ps.objs n (.lent s els)) a w S' β':=by
 have hmem:=xU ho;have hsz:=JR hr;have F:FrzAt w S (λb i=>S b i\/(β n=some b/\i<szO o)) β n o:=⟨λb i=>.inl,λb h i hi=>.inr ⟨h,hi⟩,h.obj.at_ n o hmem,by cases o <;> first|rfl|cases hr⟩;have hpo:∀ i,gK o i->i<szO o:=λi hi=>by cases o <;> first|exact hi.elim|exact hi
 have hnin:n∈ps.objs.map Prod.fst:=yZ.2 ⟨_,hmem,rfl⟩;have h1:Sim w0 S0 K0 N (zE ps.tmps) (Go.Proofs.YtaeaffgjdcigoaaGreat.setO ps.objs n (.lent s els)) a w (λb i=>S b i\/(β n=some b/\i<szO o)) β:=by
  refine⟨h.dfr,h.sz,?_,λt=>(h.tmp t).mono F.sub,⟨by rw[qM hnin];exact h.obj.nd,?_,?_,?_⟩,?_,?_⟩
  ·refine⟨h.ld.size,h.ld.os,h.ld.tape,h.ld.output,h.ld.same,h.ld.shape,?_,?_,?_⟩;{rintro b i (hS|hβ);{exact h.ld.bnd b i hS};{exact (h.obj.un n o b hmem (.inl hβ.1)).2}};{exact λb i hb hS=>.inl (h.ld.sub b i hb hS)}
   ·rintro b i hb hk (hS|hβ);{exact h.ld.old b i hb hk hS}
    ·rcases h.own n o b hmem (.inl hβ.1) with h'|h'
     all_goals grind
  {intro m x hm;rcases x6 h.obj.nd hnin hm with⟨rfl,rfl⟩|⟨_,h2⟩;{exact⟨RowAt.mono (oI hr (h.obj.at_ _ o hmem)) F.sub,λb hb i hi=>F.new b hb i oM⟩};{exact (h.obj.at_ m x h2).mono F.sub}};{intro m x b hm hβ;rcases x6 h.obj.nd hnin hm with⟨rfl,rfl⟩|⟨hne,h2⟩;{have hβ:=xC (by intro _ hi;exact hi) hβ;refine⟨?_,(h.obj.un _ o b hmem (.inl hβ)).2⟩;rintro i (hS|hS);{have:=hpo i ((h.obj.un _ o b hmem (.inl hβ)).1 i hS);rw[hsz] at this;exact this};{rw[hsz] at hS;exact hS.2}};{refine⟨?_,(h.obj.un m x b h2 hβ).2⟩;rintro i (hS|hS);{exact (h.obj.un m x b h2 hβ).1 i hS};{exact absurd (h.obj.inj _ _ _ _ b h2 hmem hβ (.inl hS.1)) hne}}}
  ·(intro m x m' x' b hm hm' hβ hβ';have key:∀ {m x},(m,x)∈Go.Proofs.YtaeaffgjdcigoaaGreat.setO ps.objs n (.lent s els)->Own β m x b->∃ x',(m,x')∈ps.objs/\Own β m x' b:=by intro m x hm hb;rcases x6 h.obj.nd hnin hm with⟨rfl,rfl⟩|⟨_,h2⟩;{exact⟨o,hmem,.inl (xC (by intro _ hi;exact hi) hb)⟩};grind);obtain⟨x1,h1,g1⟩:=key hm hβ;obtain⟨x2,h2,g2⟩:=key hm' hβ';exact h.obj.inj _ _ _ _ b h1 h2 g1 g2
  {intro m x b hm hβ;rcases x6 h.obj.nd hnin hm with⟨rfl,rfl⟩|⟨_,h2⟩;{exact h.own _ o b hmem (.inl (xC (by intro _ hi;exact hi) hβ))};{exact h.own m x b h2 hβ}};{intro m x hm hb;rcases x6 h.obj.nd hnin hm with⟨rfl,rfl⟩|⟨_,h2⟩;{exact h.keep _ o hmem hb};{exact h.keep m x h2 hb}}
 grind
theorem Sim.setO (h:Sim w0 S0 K0 N τ objs a w S β){n:Nat}{x:Obj'}(hn:n∈objs.map Prod.fst)(hx:ObjAt w S β n x)(hpub:∀ o0,(n,o0)∈objs->∀ i,gK o0 i->gK x i)(hown:∀ o0,(n,o0)∈objs->∀ b,Own β n x b->Own β n o0 b):Sim w0 S0 K0 N τ (Go.Proofs.YtaeaffgjdcigoaaGreat.setO objs n x) a w S β:=by
 obtain⟨⟨n',o0⟩,hm0,rfl⟩:=yZ.1 hn;have key:∀ {m o b},(m,o)∈Go.Proofs.YtaeaffgjdcigoaaGreat.setO objs n' x->Own β m o b->∃ o',(m,o')∈objs/\Own β m o' b:=by
  intro m o b hm hb;rcases x6 h.obj.nd hn hm with⟨rfl,rfl⟩|⟨_,h2⟩
  all_goals grind
 have key0:∀ {m o},(m,o)∈Go.Proofs.YtaeaffgjdcigoaaGreat.setO objs n' x->∃ o',(m,o')∈objs:=by
  intro m o hm;rcases x6 h.obj.nd hn hm with⟨rfl,rfl⟩|⟨_,h2⟩
  all_goals grind
 refine⟨h.dfr,h.sz,h.ld,h.tmp,⟨by rw[qM hn];exact h.obj.nd,?_,?_,?_⟩,?_,?_⟩;{intro m o hm;rcases x6 h.obj.nd hn hm with⟨rfl,rfl⟩|⟨_,h2⟩;{exact hx};{exact h.obj.at_ m o h2}};{intro m o b hm hβ;rcases x6 h.obj.nd hn hm with⟨rfl,rfl⟩|⟨_,h2⟩;{have hβ:=hown o0 hm0 b hβ;exact⟨λi hS=>hpub o0 hm0 i ((h.obj.un _ o0 b hm0 hβ).1 i hS),(h.obj.un _ o0 b hm0 hβ).2⟩};{exact h.obj.un m o b h2 hβ}};{intro m o m' o' b hm hm' hβ hβ';obtain⟨x1,h1,g1⟩:=key hm hβ;obtain⟨x2,h2,g2⟩:=key hm' hβ';exact h.obj.inj _ _ _ _ b h1 h2 g1 g2};{intro m o b hm hβ;obtain⟨o',h1,g1⟩:=key hm hβ;exact h.own m o' b h1 g1};{intro m o hm hb;obtain⟨o',h1⟩:=key0 hm;exact h.keep m o' h1 hb}
theorem Kh (cs:List PV)(j k:Nat)(x:PV)(hk:k<cs.length):(cs.set j x).getD k .any=if j=k then x else cs.getD k .any:=by grind
theorem oE {n:Nat}{v pv}(h:Rep w S β v pv):Rep w S β v (sc0 n pv):=by
 cases pv with
 |agg cs=>exact xX _| tup cs=>exact xX _| fn f cs=>exact xX _| ptr m off=>simp only[sc0];cases nqb m n <;> first|exact h|exact xX _
 |aptr m s i off=>simp only[sc0];cases nqb m n <;> first|exact h|exact xX _
 |osl m s i len=>simp only[sc0];cases nqb m n <;> first|exact h|exact xX _
 |mpv m=>simp only[sc0];cases nqb m n <;> first|exact h|exact xX _
 |_=>exact h
theorem UQ {n:Nat}{v pv}(h:Rep w S β v pv):Rep w S β v (sc1 n pv):=by
 cases pv with
 |agg cs =>
  obtain⟨vs,rfl,h1,h2⟩:=qU h;exact .agg (by grind [zN]) λj hj=>by rw[zN] at hj;rw[yK _ rfl];grind [oE]
 |tup cs =>
  obtain⟨vs,rfl,h1,h2⟩:=fR h;exact .tup (by grind [zN]) λj hj=>by rw[zN] at hj;rw[yK _ rfl];grind [oE]
 |fn f cs =>
  obtain⟨vs,rfl,h1,h2⟩:=gX h;exact .fn (by grind [zN]) λj hj=>by rw[zN] at hj;rw[yK _ rfl];grind [oE]
 |_=>exact oE (n:=n) h
theorem YQ {n:Nat}{v pv}(h:Rep w S β v pv):Rep w S β v (scr n pv):=by
 cases pv with
 |agg cs =>
  obtain⟨vs,rfl,h1,h2⟩:=qU h;exact .agg (by grind [zN]) λj hj=>by rw[zN] at hj;rw[yK _ rfl];grind [UQ]
 |tup cs =>
  obtain⟨vs,rfl,h1,h2⟩:=fR h;exact .tup (by grind [zN]) λj hj=>by rw[zN] at hj;rw[yK _ rfl];grind [UQ]
 |fn f cs =>
  obtain⟨vs,rfl,h1,h2⟩:=gX h;exact .fn (by grind [zN]) λj hj=>by rw[zN] at hj;rw[yK _ rfl];grind [UQ]
 |_=>exact oE (n:=n) h
theorem aJ (n:Nat):scr n .any=.any:=rfl
theorem Sim.drop {ps:PS}(h:Sim w0 S0 K0 N (zE ps.tmps) ps.objs a w S β)(n:Nat):Sim w0 S0 K0 N (zE (vZ (scr n) ps.tmps)) (xL (scr n) (v8 ps.objs n)) a w S β:=by
 refine⟨h.dfr,h.sz,h.ld,λt=>by rw[uK _ (aJ n)];exact YQ (h.tmp t),⟨?_,?_,?_,?_⟩,?_,?_⟩;{rw[g8];exact (nC _ _).nodup h.obj.nd}
 ·intro m o' hm;obtain⟨o'',h1,h2⟩:=vQ _ hm;obtain⟨h3,h4⟩:=vR h1;have hat:=h.obj.at_ m o'' h3;cases o'' with
  |box cs =>
   subst h2;obtain⟨b,vs,T,e1,e2,e3,e4⟩:=hat;exact⟨b,vs,T,e1,e2,by grind [zN],λj hj=>by grind [zN,yK,aJ,YQ]⟩
  |arr s els=>subst h2;exact hat| log s els=>subst h2;exact hat| lent s els=>subst h2;exact hat| mp t k=>subst h2;exact hat| mat s rows hs=>subst h2;exact MatAt.map hat (λ_ _ h=>h) λv x k hk hv=>YQ hv
 {intro m o' b hm hβ;obtain⟨o'',h1,rfl⟩:=vQ _ hm;have:=h.obj.un m o'' b (vR h1).1 (qD hβ);grind [pV]};{intro m o' m' o'' b hm hm' hβ hβ';obtain⟨x,h1,rfl⟩:=vQ _ hm;obtain⟨y,h2,rfl⟩:=vQ _ hm';exact h.obj.inj _ _ _ _ b (vR h1).1 (vR h2).1 (qD hβ) (qD hβ')};{intro m o' b hm hβ;obtain⟨x,h1,rfl⟩:=vQ _ hm;exact h.own m x b (vR h1).1 (qD hβ)};{intro m o' hm hb;obtain⟨x,h1,_⟩:=vQ _ hm;exact h.keep m x (vR h1).1 hb}
theorem Sim.adopt {ps:PS}(h:Sim w0 S0 K0 N (zE ps.tmps) ps.objs a w S β){n s m j:Nat}{cs:List PV}{O:Obj'}(hO:∀ β':Bm,β' n=none->ObjAt w S β' n O)(hr:∀ i,¬jQ O i)(hf:yQ n ps=true)(ho:yN ps.objs m=some (.box cs))(hj:jO (cs.getD j .any)=true):∃ S' β',Sim w0 S0 K0 N (zE ps.tmps) (Go.Proofs.YtaeaffgjdcigoaaGreat.setO ps.objs m (.box (cs.set j (.osl n s (λ_=>0) (λ_=>0))))++[(n,O)]) a w S' β':=by
 have hmem:=xU ho;have hf':=hf;simp only[yQ,yP] at hf';have hmn:=(xY hf'.2 hmem).1;have h1:=h.freshO hf hO hr;obtain⟨b,vs,T,e1,e2,e3,e4⟩:=h.obj.at_ m _ hmem;have hin:m∈(ps.objs++[(n,O)]).map Prod.fst:=by grind
 have hjl:j<cs.length:=by refine Nat.lt_of_not_le λh=>?_;rw[gE,tD h] at hj;cases hj
 have h2:=h1.setO (n:=m) (x:=.box (cs.set j (.osl n s (λ_=>0) (λ_=>0)))) hin ⟨b,vs,T,by grind [uD],e2,by grind,λk hk=>by
  simp only[List.length_set] at hk;rw[Kh _ _ _ _ hk];by_cases hjk:j=k;{subst hjk;rw[if_pos rfl];have:=e4 j hk;obtain⟨⟨av,hv⟩,_⟩:=oN hj this;rw[hv];exact .osl0 xG rfl rfl}
  ·rw[if_neg hjk];exact (e4 k hk).upd (xV rfl (xY hf'.2 hmem).2 k)⟩ (λo0 ho0 i hp=>by
  have hms:(m,Obj'.box cs)∈ps.objs++[(n,O)]:=Ut _ hmem;have:=RT h1.obj.nd ho0 hms;rw[this] at hp;exact hp.elim) (λo0 _ b hb=>.inl (xC (by intro _ hi;exact hi) hb))
 refine⟨S,fO β n none,?_⟩;have:Go.Proofs.YtaeaffgjdcigoaaGreat.setO (ps.objs++[(n,O)]) m (.box (cs.set j (.osl n s (λ_=>0) (λ_=>0))))=Go.Proofs.YtaeaffgjdcigoaaGreat.setO ps.objs m (.box (cs.set j (.osl n s (λ_=>0) (λ_=>0))))++[(n,O)]:=by
  have gen:∀ (l:List (Nat×Obj')) (k:List (Nat×Obj')) (x:Obj'),m∈l.map Prod.fst->Go.Proofs.YtaeaffgjdcigoaaGreat.setO (l++k) m x=Go.Proofs.YtaeaffgjdcigoaaGreat.setO l m x++k:=by
   intro l k x hm;induction l with
   |nil=>grind| cons p r ih =>
    obtain⟨u,v⟩:=p;simp only[Vv,Go.Proofs.YtaeaffgjdcigoaaGreat.setO];cases hu:nqb u m with
    |true=>rfl| false =>
     (have hne:u≠m:=λe=>by simp_all);grind
  grind
 grind
theorem lC:∀ {l:List (Nat×Obj')} {n m:Nat} {o:Obj'},(m,o)∈l->m≠n->(m,o)∈v8 l n
 |(u,v)::r,n,m,o,hm,hne=>by
  simp only[v8];cases hu:nqb u n with
  |true =>
   rcases yG.1 hm with e|hm;{simp_all};{exact lC hm hne}
  |false =>
   rcases yG.1 hm with e|hm;{grind};{exact wJ _ (lC hm hne)}
theorem lA (f:PV->PV):∀ {l:List (Nat×Obj')} {n:Nat} {o:Obj'},(n,o)∈l->(n,wC f o)∈xL f l
 |(u,v)::r,n,o,hm=>by rcases yG.1 hm with e|hm;{cases e;cases v <;> exact wI};{have:=lA f hm;cases v <;> exact wJ _ this}
theorem Wk.sound {ps ps':PS}(k:Wk ps ps'):∀ {S β},Sim w0 S0 K0 N (zE ps.tmps) ps.objs a w S β->∃ S' β',Sim w0 S0 K0 N (zE ps'.tmps) ps'.objs a w S' β':=by
 induction k with
 |refl ps=>grind| le ht ho hn=>intro S β h;exact⟨S,β,h.le ht ho hn⟩| frz n ho hc hT hO=>intro S β h;exact h.frz ho hc hT hO| lend n t ho hr hf=>intro S β h;exact h.lend ho hr hf| pub n ho hr=>intro S β h;exact h.pub ho hr| fresh n s hf=>intro S β h;exact⟨S,fO β n none,h.fresh hf⟩| drop n=>intro S β h;exact⟨S,β,h.drop n⟩| adoptT n s t hf ht =>
  intro S β h;refine⟨S,fO β n none,(h.fresh hf).setT ?_⟩;have:=h.tmp t;obtain⟨⟨av,hv⟩,_⟩:=oN ht this;rw[hv];exact .osl0 xG rfl rfl
 |adoptB n s m j hf ho hj=>intro S β h;exact h.adopt (λβ' h=>.inl ⟨h,rfl⟩) (λ_ hi=>hi) hf ho hj| trans _ _ ih1 ih2=>grind
theorem FX (h:Sim w0 S0 K0 N τ objs a w S β){pv:PV}{v:Value}{K:PV->Prop}(hl:ldV objs pv K)(hr:Rep w S β v pv):∃ pv',K pv'/\Rep w S β v pv':=by
 unfold ldV at hl;cases hn:lnt objs pv with
 |false=>grind| true =>
  rw[hn] at hl;rcases hl.h with hK|⟨n,s,els,h1,h2,h3⟩;{grind};{have hat:=h.obj.at_ n _ (xU h1);exact⟨_,h3,Bo (S':=S) (o:=.lent s els) ⟨λ_ _ x=>x,λb hb i hi=>hat.2 b hb i hi,hat,rfl⟩ hr h2⟩}
theorem ZG {o:Oper}{K:PV->Prop}{Km:Act->World->Prop}{Q:Exit->Act->World->Prop}(h:Sim w0 S0 K0 N τ objs a w S β)(hs:sop objs o.op (ev τ) K) (hk:∀ pv w' S' v,K pv->Leads w S u7 w' S'->Rep w' S' β v pv->Km (a.put o.dst v) w'):o.wp Pg a w Km Q:=by
 have he:∀ x,Rep w S β (a.eval x) (ev τ x):=λx=>h.eval x;have hrefl:Leads w S u7 w S:=Leads.refl h.ld.bnd;have fin:∀ pv v,(execOp a.eval o).run Pg w=.ok (.value v) w->K pv->Rep w S β v pv->o.wp Pg a w Km Q:=λpv v h1 h2 h3=>jC h1 (hk pv w S v h2 hrefl h3);unfold sop at hs;split at hs;{rename_i x hop;exact fin _ _ (by simp[execOp,hop]) hs (he x)};{rename_i x hop;exact fin _ _ (by simp[execOp,hop]) hs (he x)}
 ·rename_i c x y hop;obtain⟨b,hb,ht,hf⟩:=Z9 (he c) hs;cases b with
  |true=>exact fin _ _ (by simp[execOp,hop,hb,asBool]) (ht rfl) (he x)| false=>exact fin _ _ (by simp[execOp,hop,hb,asBool]) (hf rfl) (he y)
 {rename_i t parts hop;split at hs;{rename_i n fs z ht;split at hs;{rename_i cs hf;obtain⟨vs,h1,h2⟩:=UV ht he hf;exact fin _ _ (by simp[execOp,hop,h1]) hs (.agg h2.1 h2.2)};grind};{rename_i len n ag z ht;split at hs;{rename_i cs hf;obtain⟨vs,h1,h2⟩:=Vi ht he hf;exact fin _ _ (by simp[execOp,hop,h1]) hs (.agg h2.1 h2.2)};grind};grind}
 ·rename_i t len parts hop;split at hs
  ·rename_i n b z ht;split at hs
   ·rename_i els hf;cases hc:(nle (len*n) 1000&&nD els) with
    |false=>grind| true =>
     simp only[hc,cond_true] at hs;simp only[yP] at hc;obtain⟨w',S',v,h1,h2,h3⟩:=XH ht h.ld.bnd he hf (mW hc.1) hc.2;exact jC (by simp[execOp,hop,h1]) (hk _ _ _ _ hs h2 h3)
   grind
  grind
 ·rename_i t x hop;split at hs;{rename_i cs off hx;have hr:=he x;rw[hx] at hr;obtain⟨b,o',vals,hS,hv,hf,hc,hrr⟩:=sR hr;obtain⟨pv,val,h1,h2,h3⟩:=a9 (w:=w) (S:=S) (β:=β) hs vals hc (UZ hf hrr);exact fin pv val (by simp[execOp,hop,hv,h2]) h1 h3};{rename_i n off hx;split at hs;{rename_i cs ho;have hr:=he x;rw[hx] at hr;obtain⟨b,hβ,hv⟩:=kM hr;obtain⟨b',vs,T,hβ',hb,hsz,hrr⟩:=U8 h ho;rw[hβ] at hβ';cases hβ';obtain⟨pv,val,h1,h2,h3⟩:=a9 (w:=w) (S:=S) (β:=β) (b:=b) (o:=0) hs (λj=>vs.getD j undef) (λj hj=>by rw[jW];grind [cW]) hrr;obtain⟨pv',h1',h3'⟩:=FX h h1 h3;exact fin pv' val (by rw[jW] at h2;simp[execOp,hop,hv,h2]) h1' h3'};grind}
  ·rename_i n s i off hx;split at hs
   ·rename_i s' els ho;cases hss:nqb s s' with
    |false=>grind| true =>
     (simp only[hss,cond_true] at hs;have:=y5 hss;subst this;obtain⟨c,hcf,hcl,hck,hK⟩:=hs.h;have hr:=he x;rw[hx] at hr;obtain⟨b,hβ,hv⟩:=jK hr;have hlt:i ()<(els ()).length:=by grind);rcases h.obj.at_ n _ (xU ho) with⟨hn,he0⟩|⟨b',vs,T,hβ',hb,hsz,hwid,hrr⟩
     {grind}
     ·(rw[hβ] at hβ';cases hβ';have hg:(els ()).getD (i ()) []=xT c:=by grind);obtain⟨pv,val,h1,h2,h3⟩:=a9 (w:=w) (S:=S) (β:=β) (b:=b) (o:=i ()*s) hK (λj=>vs.getD (i ()*s+j) undef)
       (λj hj=>cW hb _ (by
        have:i ()*s+s<=(els ()).length*s:=by
         calc i ()*s+s=(i ()+1)*s:=by grind
          _<=_:=kG _ hlt
        omega))
       (λj hj=>by have:=(hrr (i ()) j hlt oM).1;rw[hg,j4] at this;exact .c (xV rfl hcf j) this)
      exact fin pv val (by simp[execOp,hop,hv,h2]) h1 h3
   ·rename_i sm rows hs0 ho;cases hss:(nqb s 1&&nqb off 0) with
    |false=>grind| true =>
     simp only[hss] at hs;simp only[yP] at hss;have e1:=y5 hss.1;have e2:=y5 hss.2;subst e1 e2;obtain⟨v0,k0,hk0,hki,hK⟩:=hs.h;have hr:=he x;rw[hx] at hr;obtain⟨b,hβ,hv⟩:=jK hr;rcases (show MatAt w S β n sm rows hs0 from h.obj.at_ n _ (xU ho)).pl with⟨_,_,hn⟩|⟨b',vs,T,hβ',hb,hsz,hhs,_⟩;{grind}
     ·rw[hβ] at hβ';cases hβ';obtain⟨hlt,hrp⟩:=hhs v0 k0 hk0;obtain⟨pv,val,h1,h2,h3⟩:=a9 (w:=w) (S:=S) (β:=β) (b:=b) (o:=i ()) hK (λj=>vs.getD (i ()+j) undef)
       (λj hj=>cW hb _ (by grind))
       (λj hj=>by grind)
      exact fin pv val (by rw[Vw] at h2;simp[execOp,hop,hv,h2]) h1 h3
   ·rename_i cs ho;cases hss:(nqb s 1&&nqb off 0) with
    |false=>grind| true =>
     simp only[hss] at hs;simp only[yP] at hss;have e1:=y5 hss.1;have e2:=y5 hss.2;subst e1 e2;obtain⟨hi,hK⟩:=hs.h;have hr:=he x;rw[hx] at hr;obtain⟨b,hβ,hv⟩:=jK hr;obtain⟨b',vs,T,hβ',hb,hsz,hcs⟩:=h.obj.at_ n _ (xU ho);rw[hβ] at hβ';cases hβ';obtain⟨pv,val,h1,h2,h3⟩:=a9 (w:=w) (S:=S) (β:=β) (b:=b) (o:=0) hK (λj=>vs.getD j undef) (λj hj=>by rw[jW];grind [cW]) hcs;exact fin pv val (by simp[execOp,hop,hv] at h2 ⊢;simp[h2]) h1 h3
   grind
  grind
 {rename_i bop t x y yt hop;obtain⟨pv,val,h1,h2,h3⟩:=HQ (ox:=x) (oy:=y) (λc e=>by rw[e];rfl) (he x) (he y) hs;exact fin pv val (by simp only[execOp,hop,Sem.run_bind] at h2 ⊢;simp[h2]) h1 h3};{rename_i op t x hop;have hr:=he x;split at hs;{rename_i hx;rw[hx] at hr;exact fin _ (.bool false) (by simp[execOp,hop,Op.unary,iR hr]) hs (.c rfl (.bool false))};{rename_i hx;rw[hx] at hr;exact fin _ (.bool true) (by simp[execOp,hop,Op.unary,ZK hr]) hs (.c rfl (.bool true))};{rename_i b hx;rw[hx] at hr;exact fin _ (.bool (!(b ()))) (by simp[execOp,hop,Op.unary,sS hr]) hs (mS _)};{rename_i b hx;rw[hx] at hr;exact fin _ (.bool (b ())) (by simp[execOp,hop,Op.unary,aZ hr]) hs (pS _)};{rename_i k n hx;rw[hx] at hr;obtain⟨pv,h1,h2⟩:=lP (w:=w) (S:=S) (β:=β) hs;exact fin pv _ (by simp[execOp,hop,Op.unary,vY hr,Op.intArith]) h1 h2};grind}
 ·rename_i src dst x hop;cases hno:(ty src).isNo with
  |true=>grind| false =>
   simp only[hno,cond_false] at hs;split at hs;{rename_i k z k' n ht hx;have hr:=he x;rw[hx] at hr;obtain⟨d,hd⟩:=Pw hno;obtain⟨i,d',zv,_,h2,_,_,_,_,_,h8,_⟩:=Xp ht;have h8:=h8 k z rfl;subst h8;refine fin _ _ ?_ hs (sQ k (λ_=>nx k (n ())));cases d <;> simp[execOp,hop,convert,run_underlying hd,run_underlying h2,vY hr,Conv.intToInt,nx]};{rename_i els ht hx;have hr:=he x;rw[hx] at hr;obtain⟨⟨e,h1,h2⟩,h3,ns,h4,h5⟩:=hs.h;obtain⟨a,ln,cap,hv,hb⟩:=HN h4 (pD hr);exact fin _ (.string (Y5 ns)) (by simp[execOp,hop,hv,run_convert_bytes_string w src dst e a ln cap h1 h2 h3,hb]) h5 (.c rfl (.str _))};grind
 {rename_i t x i hop;split at hs;{rename_i n fs z ht;split at hs;{rename_i off sz ag hi;have hr:=he x;split at hs;{rename_i m o' hx;rw[hx] at hr;obtain⟨b,hβ,hv⟩:=kM hr;exact fin _ _ (by simp[execOp,hop,hv,bC ht hi]) hs (.ptr hβ)};{rename_i m s j o' hx;rw[hx] at hr;obtain⟨b,hβ,hv⟩:=jK hr;exact fin _ (.pointer (some ⟨b,j ()*s+(o'+off),none⟩)) (by simp[execOp,hop,hv,bC ht hi,iG]) hs (.aptr hβ)};{rename_i cs o' hx;rw[hx] at hr;obtain⟨b,oo,vals,hS,hv,hf,hc,hrr⟩:=sR hr;exact fin _ (.pointer (some ⟨b,oo+(o'+off),none⟩)) (by simp[execOp,hop,hv,bC ht hi,iG]) hs (.dptr vals hS hf hc hrr)};grind};grind};grind}
 ·rename_i t x i hop;split at hs
  ·rename_i n fs z ht;split at hs
   ·rename_i off sz ag hi;obtain⟨inf,fields,zs,h1,h2,h3,h4,h5,h6,h7,h8⟩:=Xo ht;rw[h6,dH] at hi;obtain⟨f,hf,hfe⟩:=pB.1 hi;cases ag with
    |false =>
     simp only at hs;simp only[Prod.mk.injEq] at hfe;obtain⟨q1,q2,q3⟩:=hfe;split at hs
     ·rename_i cs hx;have hr:=he x;rw[hx] at hr;cases hle:(nqb sz 1&&nlt off cs.length) with
      |false=>grind| true =>
       (rw[hle] at hs;simp only[yP] at hle;have hs1:=y5 hle.1;have hlt:off<cs.length:=by simp_all);obtain⟨vs,hv,hl,hrr⟩:=qU hr
       (obtain⟨j,hj,hjs⟩:=qN (t:=f.type) (h8 f (z3 hf));obtain⟨fields',hu',hU⟩:=Px ht;rw[h2] at hu';cases hu';obtain⟨d,hd⟩:=JI.1 (hU f (z3 hf));have hd':=pP hd w;rw[q3] at hd';have hfa:fields[i]?=some f:=by grind);have hlv:off<vs.size:=by omega
       (refine fin _ (vs.getD off undef) ?_ hs (hrr off oM);have hj1:j.size=1:=by omega);simp[execOp,hop,hv,Instr.field,run_underlying h2,hfa,asAgg,part,hd',uM hj,hj1,q1,hlv]
     grind
    |true =>
     simp only at hs;simp only[Prod.mk.injEq] at hfe;obtain⟨q1,q2,q3⟩:=hfe;split at hs
     ·rename_i cs hx;have hr:=he x;rw[hx] at hr;cases hle:nle (off+sz) cs.length with
      |false=>grind| true =>
       (simp only[hle] at hs;have hle:off+sz<=cs.length:=by simp_all);obtain⟨vs,hv,hl,hrr⟩:=qU hr
       obtain⟨j,hj,hjs⟩:=qN (t:=f.type) (h8 f (z3 hf));obtain⟨d,hd⟩:∃ d,Pg.underlying f.type=some d:=by unfold gG at q3;grind
       (have hd':=pP hd w;rw[q3] at hd';have hfa:fields[i]?=some f:=by grind);refine fin _ (.agg (vs.extract off (off+sz))) ?_ hs (.agg ?_ ?_)
       {simp[execOp,hop,hv,Instr.field,run_underlying h2,hfa,asAgg,part,hd',uM hj,hjs,q1,q2]};{grind}
       ·(intro k hk;have hk':k<sz:=by grind);have:=hrr (off+k) oM
        (have e1:(vs.extract off (off+sz)).getD k undef=vs.getD (off+k) undef:=by simp only[Fl];grind);grind
     grind
   grind
  grind
 ·rename_i t x i hop;split at hs;{rename_i n b z els k kv ht hx hi;obtain⟨inf,el,j,zv,h1,h2,h3,h4,h5,h6,h7,h8,h9,h10,h11,h12⟩:=qX ht;have hr:=he x;have hri:=he i;rw[hx] at hr;rw[hi] at hri;obtain⟨hk0,c,hcf,hcl,hck,hK⟩:=hs.h;obtain⟨bb,oo,cap,hv,hlt,hrep⟩:=Rf (β:=β) (pD hr) h10 hcf hcl hck;refine fin _ _ ?_ hK hrep;have:=rO (w:=w) h4 h5 bb oo (els ()).length cap k (kv ()) hk0 oM;rw[h7] at this;simp[execOp,hop,hv,vY hri,this]}
  ·rename_i n b z m s o' len k kv ht hx hi;obtain⟨inf,el,j,zv,h1,h2,h3,h4,h5,h6,h7,h8,h9,h10,h11,h12⟩:=qX ht;have hr:=he x;have hri:=he i;rw[hx] at hr;rw[hi] at hri;cases hss:nqb n s with
   |false=>grind| true =>
    simp only[hss,cond_true] at hs;have:=y5 hss;subst this;obtain⟨hrg,hK⟩:=hs;rcases j2 hr with⟨_,_,hl0,_⟩|⟨bb,cap,vs,T,hβ,hlc,hb,hsz,hv⟩;{have:=hrg.lo;have:=hrg.hi;omega};{refine fin _ _ ?_ hK (.aptr hβ);have:=rO (w:=w) h4 h5 bb (o' ()*n) (len ()) cap k (kv ()) hrg.lo hrg.hi;rw[h7] at this;simp[execOp,hop,hv,vY hri,this,jI]}
  {rename_i len n ag z m o' k kv ht hx hi;obtain⟨inf,el,zs,h1,h2,h3,h4,h5,h6,h7,h8,h8',h8'',h9⟩:=iJ ht;have hr:=he x;have hri:=he i;rw[hx] at hr;rw[hi] at hri;obtain⟨jj,hj1,hj2,hK⟩:=hs.h;obtain⟨b,hβ,hv⟩:=kM hr;obtain⟨j,hj,hjs⟩:=qN (t:=el) oM;refine fin _ _ ?_ hK (.ptr hβ);have:=oH (w:=w) h2 hj b o' k (kv ()) oM oM;rw[hjs,h6,hj1] at this;simp[execOp,hop,hv,vY hri,hj1,this]};grind
 ·rename_i t x i hop;split at hs
  ·rename_i len z cs k kv ht hx hi;obtain⟨inf,el,zs,h1,h2,h3,h4,h5,h6,h7,h8,h8',h8'',h9⟩:=iJ ht;have hr:=he x;have hri:=he i;rw[hx] at hr;rw[hi] at hri;cases hll:nqb len cs.length with
   |false=>grind| true =>
    (simp only[hll,cond_true] at hs;have hll:=y5 hll;obtain⟨jj,hj1,hj2,hK⟩:=hs.h;obtain⟨vs,hv,hl,hrr⟩:=qU hr;obtain⟨j,hj,hjs⟩:=qN (t:=el) oM;have hs1:j.size=1:=by omega);obtain⟨d,hd⟩:=JI.1 h8''
    (have hlt:jj<vs.size:=by omega);refine fin _ (vs.getD jj undef) ?_ hK (hrr jj oM)
    have hd':=pP hd w;rw[h7] at hd';simp[execOp,hop,hv,vY hri,hj1,Instr.index,asIntOf,run_underlying h2,hj2,uM hj,hs1,part,hd',hlt]
  grind
 ·rename_i x i hop;have hr:=he x;split at hs
  ·rename_i vs hx;rw[hx] at hr;cases hlt:nlt i vs.length with
   |false=>grind| true =>
    (simp only[hlt,cond_true] at hs;have hlt:i<vs.length:=by simp_all);obtain⟨us,hv,hl,hrr⟩:=fR hr
    (have hlu:i<us.size:=by omega);exact fin _ (us.getD i undef) (by simp[execOp,hop,hv,Instr.extract,hlu]) hs (hrr i hlt)
  grind
 ·rename_i t x lo hi hop;have hr:=he x;split at hs;{rename_i n b z els ht hx;obtain⟨inf,el,j,zv,h1,h2,h3,h4,h5,h6,h7,h8,h9,h10,h11,h12⟩:=qX ht;rw[hx] at hr;split at hs;{rename_i l hh hl hhh;obtain⟨hok,hw,hK⟩:=hs;have hl':=dV he hl;have hh':=dV he hhh;have:=hok.lo;have:=hok.mid;have:=hok.hi;obtain⟨aa,cap,hv,hcap,hrep⟩:=JX (pD hr) hw.h (l:=(l ()).toNat) (h:=(hh ()).toNat) oM oM;refine fin _ _ ?_ hK (.c rfl hrep);have:=pC (w:=w) (ρ:=a.eval) (a:=aa) h4 h5 hcap hok.lo hok.mid hok.hi (hl'.imp (λh=>⟨h.1,by rw[h.2]⟩) id) (hh'.imp (λh=>⟨h.1,by rw[h.2]⟩) id);rw[h7] at this;simp only[execOp,hop,hv,Sem.run_bind,this,Result.andThen_ok,Sem.run_pure]};grind}
  ·rename_i n b z m s o' len ht hx;obtain⟨inf,el,j,zv,h1,h2,h3,h4,h5,h6,h7,h8,h9,h10,h11,h12⟩:=qX ht;rw[hx] at hr;split at hs
   ·rename_i l hh hl hhh;cases hss:nqb n s with
    |false=>grind| true =>
     simp only[hss,cond_true] at hs;have:=y5 hss;subst this;obtain⟨hok,⟨hT⟩⟩:=hs;have hl':=dV he hl;have hh':=dV he hhh;have:=hok.lo;have:=hok.mid;have:=hok.hi;have key:∃ aa cc v,a.eval x=.slice aa (len ()) cc/\len ()<=cc/\(∀ aa',(l ()).toNat=cc->aa'=aa->Rep w S β (.slice aa' ((hh ()).toNat-(l ()).toNat) (cc-(l ()).toNat)) v)/\(((l ()).toNat≠cc)->Rep w S β (.slice (aa.map (·.add ((l ()).toNat*n))) ((hh ()).toNat-(l ()).toNat) (cc-(l ()).toNat)) v)/\K v:=by
      rcases hT with⟨hne,hK⟩|⟨heq,hK⟩
      ·rcases j2 hr with⟨hβ,ho0,hl0,av,hv⟩|⟨bb,cap,vs,T,hβ,hlc,hb,hsz,hv⟩
       ·(have e1:(l ()).toNat=0:=by omega);have e2:(hh ()).toNat=0:=by omega
        refine⟨av,0,_,by rw[hv,hl0],by omega,λaa' _ e=>?_,λh=>absurd e1 h,hK⟩;rw[e1,e2];exact .osl0 hβ (by grind) (by grind)
       ·refine⟨some ⟨bb,o' ()*n,none⟩,cap,_,hv,hlc,λaa' hc e=>?_,λhc=>?_,hK⟩
        ·(have e1:(l ()).toNat=0:=by omega);subst e
         have:=Rep.osl (S:=S) (n:=m) (s:=n) (cap:=cap-(l ()).toNat) (o:=λ_=>o' ()+(l ()).toNat) (len:=λ_=>(hh ()).toNat-(l ()).toNat) hβ oM hb (by grind);simpa[e1] using this
        {have:=Rep.osl (S:=S) (n:=m) (s:=n) (cap:=cap-(l ()).toNat) (o:=λ_=>o' ()+(l ()).toNat) (len:=λ_=>(hh ()).toNat-(l ()).toNat) hβ oM hb (by grind);simpa only [JK,gQ,<-jI] using this}
      ·(have e0:(hh ()).toNat-(l ()).toNat=0:=by omega);rw[e0]
       rcases j2 hr with⟨hβ,ho0,hl0,av,hv⟩|⟨bb,cap,vs,T,hβ,hlc,hb,hsz,hv⟩;{exact⟨av,0,_,by rw[hv,hl0],by omega,λ_ _ _=>.c rfl (.sl0 _ _),λ_=>.c rfl (.sl0 _ _),hK⟩};{exact⟨some ⟨bb,o' ()*n,none⟩,cap,_,hv,hlc,λ_ _ _=>.c rfl (.sl0 _ _),λ_=>.c rfl (.sl0 _ _),hK⟩}
     obtain⟨aa,cc,v,hv,hlc,r1,r2,hK⟩:=key;have:=pC (w:=w) (ρ:=a.eval) (a:=aa) h4 h5 hlc hok.lo hok.mid hok.hi (hl'.imp (λh=>⟨h.1,by rw[h.2]⟩) id) (hh'.imp (λh=>⟨h.1,by rw[h.2]⟩) id);rw[h7] at this;by_cases hc:cc=(l ()).toNat;{rw[if_pos hc] at this;exact fin _ _ (by simp only[execOp,hop,hv,Sem.run_bind,this,Result.andThen_ok,Sem.run_pure]) hK (r1 _ hc.symm rfl)};{rw[if_neg hc] at this;exact fin _ _ (by simp only[execOp,hop,hv,Sem.run_bind,this,Result.andThen_ok,Sem.run_pure]) hK (r2 (λe=>hc e.symm))}
   grind
  ·rename_i n b z ht hx;obtain⟨inf,el,j,zv,h1,h2,h3,h4,h5,h6,h7,h8,h9,h10,h11,h12⟩:=qX ht;rw[hx] at hr;have hv:=fS hr;split at hs
   ·(rename_i l hh hl hhh;obtain⟨hok,hK⟩:=hs;have hl':=dV he hl;have hh':=dV he hhh;have:=hok.lo;have:=hok.mid;have:=hok.hi;refine fin _ _ ?_ hK .nil;have:=pC (w:=w) (ρ:=a.eval) (a:=none) h4 h5 (yD 0) hok.lo hok.mid hok.hi (hl'.imp (λh=>⟨h.1,by rw[h.2]⟩) id) (hh'.imp (λh=>⟨h.1,by omega⟩) id);have e1:(l ()).toNat=0:=by omega);have e2:(hh ()).toNat=0:=by omega
    rw[e1,e2,if_pos rfl] at this;simp only[execOp,hop,hv,Sem.run_bind,this,Result.andThen_ok,Sem.run_pure]
   grind
  grind
 {rename_i x hop;have hr:=he x;split at hs;{rename_i n o' hx;rw[hx] at hr;obtain⟨b,hβ,hv⟩:=kM hr;exact fin _ _ (by simp[execOp,hop,hv]) hs (.ptr hβ)};{rename_i n s i o' hx;rw[hx] at hr;obtain⟨b,hβ,hv⟩:=jK hr;exact fin _ _ (by simp[execOp,hop,hv]) hs (.aptr hβ)};{rename_i c o' hx;rw[hx] at hr;obtain⟨b,oo,vals,hS,hv,hf,hc,hrr⟩:=sR hr;exact fin _ _ (by simp[execOp,hop,hv]) hs (.dptr vals hS hf hc hrr)};grind}
 ·(rename_i f first caps hop);split at hs
  ·(rename_i hfe;have hf0:first=#[]:=by grind);have hc:=Y2 he caps.toList
   refine fin _ (.func (.func f) #[] (caps.toList.map a.eval).toArray) ?_ hs (.fn hc.1 hc.2);have:caps.map a.eval=(caps.toList.map a.eval).toArray:=Array.ext' (by simp);simp[execOp,hop,Instr.makeFunc,hf0,<-this]
  grind
 ·rename_i c hop;split at hs
  ·rename_i hcl;split at hs
   ·(rename_i x t hx ht;have hr:=he x;have ha:c.args=#[x]:=by grind);have hta:c.argTypes=#[t]:=by grind
    unfold T6 at hs;split at hs
    ·rename_i n b z hty;obtain⟨inf,el,j,zv,h1,h2,h3,h4,_⟩:=qX hty;split at hs
     ·rename_i els hxe;rw[hxe] at hr;have:=pD hr;obtain⟨aa,cap,hv,_⟩:∃ aa cap,a.eval x=.slice aa (els ()).length cap/\True:=by
       rcases fT this with⟨e0,aa,cap,hv⟩|⟨bb,oo,cap,s,vals,_,_,_,_,_,_,_,hv⟩
       all_goals grind
      exact fin _ (.int .i64 ((els ()).length:Nat)) (by simp[execOp,hop,resolve,hcl,invoke,Go.builtin,ha,hta,hv,Builtin.len_,run_underlying h4,goInt]) hs (sQ .i64 (λ_=>(((els ()).length:Nat):Int)))
     ·rename_i m s o' l hxe;rw[hxe] at hr;obtain⟨aa,cap,hv⟩:∃ aa cap,a.eval x=.slice aa (l ()) cap:=by
       rcases j2 hr with⟨_,_,hl0,aa,hv⟩|⟨bb,cap,vs,T,hβ,hlc,hb,hsz,hv⟩
       all_goals grind
      exact fin _ (.int .i64 (l ():Nat)) (by simp[execOp,hop,resolve,hcl,invoke,Go.builtin,ha,hta,hv,Builtin.len_,run_underlying h4,goInt]) hs (sQ .i64 (λ_=>((l ():Nat):Int)))
     {rename_i hxe;rw[hxe] at hr;have hv:=fS hr;exact fin _ (.int .i64 0) (by simp[execOp,hop,resolve,hcl,invoke,Go.builtin,ha,hta,hv,Builtin.len_,run_underlying h4,goInt]) hs (sQ .i64 (λ_=>0))};{rename_i hxe;rw[hxe] at hr;obtain⟨aa,hv⟩:=oO hr;exact fin _ (.int .i64 0) (by simp[execOp,hop,resolve,hcl,invoke,Go.builtin,ha,hta,hv,Builtin.len_,run_underlying h4,goInt]) hs (sQ .i64 (λ_=>0))};grind
    grind
   grind
  ·rename_i hcl;split at hs
   ·(rename_i x y hx;have ha:c.args=#[x,y]:=by grind);split at hs
    {rename_i k b hxe hye;have hr:=he x;have hr2:=he y;rw[hxe] at hr;rw[hye] at hr2;refine fin _ (.int .i64 (imax (k ()) (b ()))) ?_ hs (sQ .i64 (λ_=>imax (k ()) (b ())));simp[execOp,hop,resolve,hcl,invoke,Go.builtin,ha,vY hr,vY hr2,Builtin.max_,Builtin.max2,imax]};grind
   grind
  ·rename_i hcl;split at hs
   ·(rename_i x y hx;have ha:c.args=#[x,y]:=by grind);split at hs
    {rename_i k b hxe hye;have hr:=he x;have hr2:=he y;rw[hxe] at hr;rw[hye] at hr2;refine fin _ (.int .i64 (imin (k ()) (b ()))) ?_ hs (sQ .i64 (λ_=>imin (k ()) (b ())));simp[execOp,hop,resolve,hcl,invoke,Go.builtin,ha,vY hr,vY hr2,Builtin.min_,Builtin.min2,imin]};grind
   grind
  {rename_i f hcl;split at hs;{rename_i g caps hf;exact nF hop hcl h hf (hs.h.resolve_right λq=>by cases q.1) hk};grind};grind
 grind
end
end Go.Proofs.YtaeaffgjdcigoaaGreat
