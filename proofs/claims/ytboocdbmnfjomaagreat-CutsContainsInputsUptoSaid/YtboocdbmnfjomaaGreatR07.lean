/- A part of the proof: PmJ. -/
import Derived.Test.YtboocdbmnfjomaaGreatR06
set_option linter.all false
namespace Go.Proofs.YtboocdbmnfjomaaGreat
open Go
section
variable {w0:World} {S0:Nat->Nat->Prop} {K0:Nat->Prop} {N:Cx} {τ:Nat->PV} {objs:List (Nat×Obj')} {a:Act} {w:World} {S S':Nat->Nat->Prop} {β:Bm}
theorem Evo.refl:Evo S w w:=⟨λ_ _ _=>rfl,λb vs T h=>⟨vs,h,rfl⟩⟩
theorem Rep.mono {v pv}(h:Rep w S β v pv)(hS:∀ b i,S b i->S' b i):Rep w S' β v pv:=h.evo Evo.refl hS
theorem uO (f:PV->PV)(hf:f .any=.any):∀ (l:List (Nat×PV)) (t:Nat),zD (wF f l) t=f (zD l t)
 |[],t=>by simp[wF,zD,hf]| (u,v)::r,t=>by
  simp only[wF,zD];cases nqb u t with
  |true=>rfl| false=>exact uO f hf r t
theorem zO (f:PV->PV):∀ (l:List PV),(w8 f l).length=l.length
 |[]=>rfl| v::r=>by simp[w8,zO f r]
theorem yQ (f:PV->PV)(hf:f .any=.any):∀ (l:List PV) (j:Nat),(w8 f l).getD j .any=f (l.getD j .any)
 |[],j=>by simp[w8,hf]| v::r,0=>by simp[w8]| v::r,j+1=>by simpa[w8] using yQ f hf r j
theorem dC {f:PV->Prop}(hf:f .any):∀ {cs:List PV},VQ f cs->∀ j,f (cs.getD j .any)
 |[],_,j=>by grind| c::cs,h,0=>by simpa using h.1| c::cs,h,j+1=>by simpa using dC hf h.2 j
def szO:Obj'->Nat
 |.box cs=>cs.length| .arr s els=>(els ()).length*s| .log s els=>(els ()).length*s| .lent s els=>(els ()).length*s| .mat _ _ _=>0| .mp _ _=>0
theorem oR {n s:Nat}{els:Unit->List (List D)}{o:Obj'}(hr:VC o=some (s,els))(h:ObjAt w S β n o):RowAt w S β n s els:=by
 cases o with
 |box cs=>cases hr
 |arr s' e=>cases hr;exact h
 |log s' e=>cases hr;exact h
 |lent s' e=>cases hr;exact h.1
 |mat s' r q=>cases hr
 |mp t k=>cases hr
theorem Hn {s:Nat}{els:Unit->List (List D)}{o:Obj'}(hr:VC o=some (s,els)):szO o=(els ()).length*s:=by
 cases o with
 |box cs=>cases hr
 |arr s' e=>cases hr;rfl
 |log s' e=>cases hr;rfl
 |lent s' e=>cases hr;rfl
 |mat s' r q=>cases hr
 |mp t k=>cases hr
structure FrzAt (w:World) (S S':Nat->Nat->Prop) (β:Bm) (n:Nat) (o:Obj'):Prop where
 sub:∀ b i,S b i->S' b i
 new:∀ b,β n=some b->∀ i,i<szO o->S' b i
 at_:ObjAt w S β n o
 cl:Y8 o=true
theorem Ar {n:Nat}{o:Obj'}(F:FrzAt w S S' β n o){v pv}(h:Rep w S β v pv)(hf:fo0 n o pv):Rep w S' β v (fz0 n o pv):=by
 have hm:=h.mono F.sub;cases pv with
 |agg cs=>exact xV _| tup cs=>exact xV _| fn f cs=>exact xV _| ptr m off =>
  simp only[fz0];cases hb:nqb m n with
  |false=>exact hm| true =>
   have:=y8 hb;subst this;simp only[cond_true];cases o with
   |arr s els=>exact xV _| log s els=>exact xV _| lent s els=>exact xV _| mat s r q=>exact xV _| mp t k=>exact xV _| box cs =>
    obtain⟨b,hβ,rfl⟩:=jP h;obtain⟨b',vs,T,hβ',hw,hsz,hr⟩:=F.at_;rw[hβ] at hβ';cases hβ';have hcl:=F.cl;simp only[Y8] at hcl;have hfl:y4 qV (w8 WZ cs)=true:=by
     have:∀ (l:List PV),y4 iU l=true->y4 qV (w8 WZ l)=true:=by
      intro l;induction l with
      |nil=>intro _;rfl
      |cons c l ih =>
       intro h;simp only[y4,yS,w8] at h ⊢;exact⟨by cases c <;> simp_all [iU,WZ,qV],ih h.2⟩
     grind
    show Rep w S' β _ (.dptr (w8 WZ cs) off)
    suffices key:Rep w S' β (.pointer (some ⟨b,0+off,none⟩)) (.dptr (w8 WZ cs) off) by grind
    refine Rep.dptr (o:=0) (λj=>vs.getD j undef) (λj hj=>F.new b hβ _ (by grind [zO,szO])) hfl (λj hj=>?_) (λj hj=>?_);{rw[zO] at hj;rw[vF];grind [gZ]}
    ·(rw[zO] at hj;rw[yQ _ rfl];have h1:=mV ((hr j hj).mono F.sub) (xU rfl hcl j);have h2:∀ x:PV,toD (WZ x)=toD x:=by intro x;cases x <;> rfl);grind
 |aptr m s i off =>
  simp only[fz0];cases hb:nqb m n with
  |false=>exact hm| true=>exact xV _
 |mpv m=>simp only[fz0];cases nqb m n <;> first|exact hm|exact xV _
 |osl m s i len =>
  simp only[fz0];cases hb:nqb m n with
  |false=>exact hm| true =>
   have:=y8 hb;subst this;simp only[cond_true];cases hro:VC o with
   |none=>exact xV _| some p =>
    obtain⟨s',els⟩:=p;simp only[fo0,hb,hro] at hf;have hf:=hf.h;show Rep w S' β v ((match nqb s s' with|true=>PV.sl (λ_=>((els ()).drop (i ())).take (len ()))|false=>.any));cases hss:nqb s s' with
    |false=>exact xV _| true =>
     have:=y8 hss;subst this;simp only[cond_true];refine .c rfl ?_;simp only[toD];rcases qG h with⟨hn,ho,hl,aa,rfl⟩|⟨b,cap,vs,T,hβ,hlc,hw,hsz,rfl⟩;{rw[hl];simpa using RepD.sl0 _ _}
     ·rcases oR hro F.at_ with⟨hn,_⟩|⟨b',vs',T',hβ',hw',hsz',hwid,hr⟩;{grind}
      ·(rw[hβ] at hβ';cases hβ';rw[hw] at hw';cases hw';have hlen:(((els ()).drop (i ())).take (len ())).length=len ():=by grind);by_cases h0:len ()=0
       {rw[h0];simpa using RepD.sl0 _ _}
       ·(have hg:∀ k,k<len ()->(((els ()).drop (i ())).take (len ())).getD k []=(els ()).getD (i ()+k) []:=by grind);have key:=RepD.sl (w:=w) (S:=S') (b:=b) (o:=i ()*s) (cap:=cap) (s:=s) (els:=((els ()).drop (i ())).take (len ())) (λk j=>vs.getD ((i ()+k)*s+j) undef)
         (by grind) oM
         (λk j hk hj=>F.new b hβ _ (by
          rw[hlen] at hk;rw[Hn hro];have:(i ()+k)*s+s<=(els ()).length*s:=by
           calc (i ()+k)*s+s=(i ()+k+1)*s:=by grind
            _<=_:=uU _ oM
          grind))
         (λe he=>hwid e (F4 (p5 he)))
         (λk j hk hj=>by
          rw[hlen] at hk;have hlt:(i ()+k)*s+j<vs.size:=by
           have:(i ()+k)*s+s<=(els ()).length*s:=by
            calc (i ()+k)*s+s=(i ()+k+1)*s:=by grind
             _<=_:=uU _ oM
           omega
          rw[<-gZ hw _ hlt,jR])
         (λk j hk hj=>by grind)
         (λk j hk hj=>by rw[hlen] at hk;rw[hg k hk];exact ((hr (i ()+k) j oM hj).1).evo (λ_ _ _=>rfl) F.sub)
        grind
 |int k x=>exact hm| tt=>exact hm| ff=>exact hm| bool b=>exact hm| nbool b=>exact hm| str x=>exact hm| nil=>exact hm| sl e=>exact hm| dptr cs o=>exact hm| nilf=>exact hm| nilp=>exact hm| emp=>exact hm| any=>exact hm
theorem Na {n:Nat}{o:Obj'}(F:FrzAt w S S' β n o){v pv}(h:Rep w S β v pv)(hf:fo1 n o pv):Rep w S' β v (fz1 n o pv):=by
 cases pv with
 |agg cs =>
  obtain⟨vs,rfl,h1,h2⟩:=kC h;exact .agg (by grind [zO]) λj hj=>by rw[zO] at hj;rw[yQ _ rfl];exact Ar F (h2 j hj) (dC trivial hf j)
 |tup cs =>
  obtain⟨vs,rfl,h1,h2⟩:=dH h;exact .tup (by grind [zO]) λj hj=>by rw[zO] at hj;rw[yQ _ rfl];exact Ar F (h2 j hj) (dC trivial hf j)
 |fn f cs =>
  obtain⟨vs,rfl,h1,h2⟩:=dJ h;exact .fn (by grind [zO]) λj hj=>by rw[zO] at hj;rw[yQ _ rfl];exact Ar F (h2 j hj) (dC trivial hf j)
 |_=>exact Ar F h hf
theorem Aq {n:Nat}{o:Obj'}(F:FrzAt w S S' β n o){v pv}(h:Rep w S β v pv)(hf:fo n o pv):Rep w S' β v (frz n o pv):=by
 cases pv with
 |agg cs =>
  obtain⟨vs,rfl,h1,h2⟩:=kC h;exact .agg (by grind [zO]) λj hj=>by rw[zO] at hj;rw[yQ _ rfl];exact Na F (h2 j hj) (dC trivial hf j)
 |tup cs =>
  obtain⟨vs,rfl,h1,h2⟩:=dH h;exact .tup (by grind [zO]) λj hj=>by rw[zO] at hj;rw[yQ _ rfl];exact Na F (h2 j hj) (dC trivial hf j)
 |fn f cs =>
  obtain⟨vs,rfl,h1,h2⟩:=dJ h;exact .fn (by grind [zO]) λj hj=>by rw[zO] at hj;rw[yQ _ rfl];exact Na F (h2 j hj) (dC trivial hf j)
 |_=>exact Ar F h hf
theorem wW (f:PV->PV):∀ {l:List (Nat×Obj')} {n:Nat} {o:Obj'},(n,o)∈xB f l->∃ o',(n,o')∈l/\o=x7 f o'
 |(m,o1)::r,n,o,h=>by
  (have e:xB f ((m,o1)::r)=(m,x7 f o1)::xB f r:=by cases o1 <;> rfl);rw[e,yR] at h
  rcases h with h|h;{grind};{obtain⟨o',h1,h2⟩:=wW f h;grind}
theorem fH (f:PV->PV):∀ (l:List (Nat×Obj')),(xB f l).map Prod.fst=l.map Prod.fst
 |[]=>rfl| (m,o1)::r=>by
  (have e:xB f ((m,o1)::r)=(m,x7 f o1)::xB f r:=by cases o1 <;> rfl);rw[e,j3,j3,fH f r]
theorem Zd (f:PV->PV):∀ {hs:List (PV×(Unit->Nat))} {v:PV} {k:Unit->Nat},(v,k)∈gQ f hs->∃ v',(v',k)∈hs/\v=f v'
 |(u,j)::r,v,k,h=>by simp only[gQ,yR] at h;rcases h with h|h;{grind};{obtain⟨v',h1,h2⟩:=Zd f h;grind}
theorem n9 (f:PV->PV):∀ {hs:List (PV×(Unit->Nat))} {v:PV} {k:Unit->Nat},(v,k)∈hs->(f v,k)∈gQ f hs
 |(u,j)::r,v,k,h=>by simp only[gQ,yR] at h ⊢;rcases h with h|h;{grind};{exact .inr (n9 f h)}
theorem jX (f:PV->PV)(o:Obj')(i:Nat):vM (x7 f o) i↔vM o i:=by
 cases o with
 |mat s rows hs =>
  show (_/\_)↔(_/\_);grind [n9,Zd]
 |_=>exact Iff.rfl
theorem uG {f:PV->PV}{n:Nat}{o:Obj'}{b:Nat}(h:Own β n (x7 f o) b):Own β n o b:=by rcases h with h|⟨i,h1,h2⟩;{exact .inl h};{exact .inr ⟨i,(jX f o i).1 h1,h2⟩}
theorem BL {f:PV->PV}{n:Nat}{o:Obj'}{b:Nat}(h:Own β n o b):Own β n (x7 f o) b:=by rcases h with h|⟨i,h1,h2⟩;{exact .inl h};{exact .inr ⟨i,(jX f o i).2 h1,h2⟩}
theorem pJ {f:PV->PV}{o:Obj'}{i:Nat}(h:gF o i):gF (x7 f o) i:=by cases o <;> exact h
theorem wX:∀ {l:List (Nat×Obj')} {n m:Nat} {o:Obj'},(m,o)∈xP l n->(m,o)∈l/\m≠n
 |(u,x)::r,n,m,o,h=>by
  simp only[xP] at h;cases hu:nqb u n with
  |true =>
   simp only[hu,cond_true] at h;obtain⟨h1,h2⟩:=wX h;grind
  |false =>
   simp only[hu,cond_false,yR] at h;rcases h with h|h;{cases h;exact⟨wZ,λe=>by simp_all⟩};{obtain⟨h1,h2⟩:=wX h;grind}
theorem nJ:∀ (l:List (Nat×Obj')) (n:Nat),((xP l n).map Prod.fst).Sublist (l.map Prod.fst)
 |[],n=>by simp[xP]| (u,x)::r,n=>by
  simp only[xP];cases nqb u n with
  |true=>exact (nJ r n).trans (List.sublist_cons_self _ _)| false=>exact (nJ r n).cons_cons _
theorem JG {n:Nat}{o:Obj'}:∀ {l:List (Nat×PV)},foT n o l->∀ t,fo n o (zD l t)
 |[],_,t=>trivial| (u,v)::r,h,t=>by
  simp only[zD];cases nqb u t with
  |true=>exact h.1| false=>exact JG h.2 t
theorem JH {n u:Nat}{o o1:Obj'}{r:List (Nat×Obj')}(h:foO n o ((u,o1)::r)):foO n o r:=by cases o1 <;> first|exact h|exact h.2
theorem Fx {n:Nat}{o:Obj'}:∀ {l:List (Nat×Obj')},foO n o l->∀ {m cs},(m,Obj'.box cs)∈l->VQ (fo n o) cs
 |(u,o1)::r,h,m,cs,hm=>by rcases yR.1 hm with hm|hm;{cases hm;exact h.1};{exact Fx (JH h) hm}
theorem JI {n:Nat}{o:Obj'}:∀ {l:List (Nat×Obj')},foO n o l->∀ {m s rows hs},(m,Obj'.mat s rows hs)∈l->foH n o hs
 |(u,o1)::r,h,m,s,rows,hs,hm=>by rcases yR.1 hm with hm|hm;{cases hm;exact h.1};{exact JI (JH h) hm}
theorem Fy {n:Nat}{o:Obj'}:∀ {hs:List (PV×(Unit->Nat))},foH n o hs->∀ {v k},(v,k)∈hs->fo n o v
 |(u,j)::r,h,v,k,hm=>by rcases yR.1 hm with hm|hm;{cases hm;exact h.1};{exact Fy h.2 hm}
theorem RowIn.mono {ob:Option Nat}{v:Value}{s:Nat}{els:List (List D)}(h:RowIn w S ob v s els)(hS:∀ b i,S b i->S' b i):RowIn w S' ob v s els:=by rcases h with h|⟨b,cap,us,T,h1,h2,h3,h4,h5,h6,h7⟩;{exact .inl h};{exact .inr ⟨b,cap,us,T,h1,h2,h3,h4,h5,h6,λi j hi hj=>⟨(h7 i j hi hj).1.evo (λ_ _ _=>rfl) hS,(h7 i j hi hj).2⟩⟩}
theorem MatAt.map {n s:Nat}{rows:Unit->List (List (List D))}{hs:List (PV×(Unit->Nat))}{f:PV->PV}(h:MatAt w S β n s rows hs)(hS:∀ b i,S b i->S' b i)(hf:∀ v x k,(x,k)∈hs->Rep w S β v x->Rep w S' β v (f x)):MatAt w S' β n s rows (gQ f hs):=by have hr:=jX f (.mat s rows hs);obtain⟨hp,h5,h6⟩:=h;refine⟨?_,λi j b hi hj=>h5 i j b ((hr i).1 hi) ((hr j).1 hj),λi b hi=>h6 i b ((hr i).1 hi)⟩;rcases hp with⟨e1,e2,e3⟩|⟨b,vs,T,h1,h2,h3,h4,h7⟩;{subst e3;exact .inl ⟨e1,e2,rfl⟩};{refine .inr ⟨b,vs,T,h1,h2,h3,λv k hk=>?_,λi hi=>(h7 i ((hr i).1 hi)).mono hS⟩;obtain⟨v',g1,rfl⟩:=Zd f hk;grind}
theorem RowAt.mono {n s:Nat}{els:Unit->List (List D)}(h:RowAt w S β n s els)(hS:∀ b i,S b i->S' b i):RowAt w S' β n s els:=by rcases h with e|⟨b,vs,T,e1,e2,e3,e4,e5⟩;{exact .inl e};{exact .inr ⟨b,vs,T,e1,e2,e3,e4,λi j hi hj=>⟨(e5 i j hi hj).1.evo (λ_ _ _=>rfl) hS,(e5 i j hi hj).2⟩⟩}
theorem ObjAt.mono {n:Nat}{o:Obj'}(h:ObjAt w S β n o)(hS:∀ b i,S b i->S' b i):ObjAt w S' β n o:=by
 cases o with
 |box cs=>obtain⟨b,vs,T,e1,e2,e3,e4⟩:=h;exact⟨b,vs,T,e1,e2,e3,λj hj=>(e4 j hj).mono hS⟩
 |arr s els=>exact RowAt.mono h hS| log s els=>exact RowAt.mono h hS| lent s els=>exact⟨RowAt.mono h.1 hS,h.2.mono hS⟩| mp t k=>exact h| mat s rows hs =>
  obtain⟨hp,h5,h6⟩:=h;refine⟨?_,h5,h6⟩;rcases hp with hp|⟨b,vs,T,h1,h2,h3,h4,h7⟩;{grind};{exact .inr ⟨b,vs,T,h1,h2,h3,λv k hk=>⟨(h4 v k hk).1,(h4 v k hk).2.mono hS⟩,λi hi=>(h7 i hi).mono hS⟩}
theorem Sim.frz {ps:PS}(h:Sim w0 S0 K0 N (zD ps.tmps) ps.objs a w S β){n:Nat}{o:Obj'}(ho:yK ps.objs n=some o)(hc:Y8 o=true)(hT:foT n o ps.tmps)(hO:foO n o ps.objs):∃ S' β',Sim w0 S0 K0 N (zD (JF n o ps).tmps) (JF n o ps).objs a w S' β':=by
 have hmem:=xG ho;have F:FrzAt w S (λb i=>S b i\/β n=some b) β n o:=⟨λb i=>.inl,λb h i _=>.inr h,h.obj.at_ n o hmem,hc⟩;refine⟨λb i=>S b i\/β n=some b,β,⟨h.dfr,h.sz,?_,?_,?_,?_,?_⟩⟩
 ·refine⟨h.ld.size,h.ld.os,h.ld.tape,h.ld.output,h.ld.same,h.ld.shape,?_,?_,?_⟩;{rintro b i (hS|hβ);{exact h.ld.bnd b i hS};{exact (h.obj.un n o b hmem (.inl hβ)).2}};{exact λb i hb hS=>.inl (h.ld.sub b i hb hS)}
  ·rintro b i hb hk (hS|hβ);{exact h.ld.old b i hb hk hS}
   ·rcases h.own n o b hmem (.inl hβ) with h'|h'
    all_goals grind
 {intro t;simp only[JF];rw[uO _ rfl];exact Aq F (h.tmp t) (JG hT t)}
 ·refine⟨?_,?_,?_,?_⟩;{simp only[JF,fH];exact (nJ _ _).nodup h.obj.nd}
  ·intro m o' hm;obtain⟨o'',h1,h2⟩:=wW _ hm;obtain⟨h3,h4⟩:=wX h1;have hat:=h.obj.at_ m o'' h3;cases o'' with
   |box cs =>
    subst h2;obtain⟨b,vs,T,e1,e2,e3,e4⟩:=hat;exact⟨b,vs,T,e1,e2,by grind [zO],λj hj=>by rw[zO] at hj;rw[yQ _ rfl];exact Aq F (e4 j hj) (dC trivial (Fx hO h3) j)⟩
   |arr s els=>subst h2;exact RowAt.mono hat F.sub| log s els=>subst h2;exact RowAt.mono hat F.sub| lent s els=>subst h2;exact⟨RowAt.mono hat.1 F.sub,hat.2.mono F.sub⟩| mp t k=>subst h2;exact hat| mat s rows hs=>subst h2;exact MatAt.map hat F.sub λv x k hk hv=>Aq F hv (Fy (JI hO h3) hk)
  {intro m o' b hm hβ;obtain⟨o'',h1,rfl⟩:=wW _ hm;obtain⟨h3,h4⟩:=wX h1;obtain⟨h5,h6⟩:=h.obj.un m o'' b h3 (uG hβ);refine⟨?_,h6⟩;rintro i (hS|hn);{grind [pJ]};{exact absurd (h.obj.inj _ _ _ _ b h3 hmem (uG hβ) (.inl hn)) h4}};{intro m o' m' o'' b hm hm' hβ hβ';obtain⟨x,h1,rfl⟩:=wW _ hm;obtain⟨y,h2,rfl⟩:=wW _ hm';exact h.obj.inj _ _ _ _ b (wX h1).1 (wX h2).1 (uG hβ) (uG hβ')}
 {intro m o' b hm hβ;obtain⟨x,h1,rfl⟩:=wW _ hm;exact h.own m x b (wX h1).1 (uG hβ)};{intro m o' hm hb;obtain⟨x,h1,_⟩:=wW _ hm;exact h.keep m x (wX h1).1 hb}
theorem s8 {f:PV->PV->Prop}(hf:∀ a b,f a b->Le a b):∀ {a b:List PV},jH f a b->LeL a b
 |[],[],_=>by simp[LeL]| x::a,y::b,h=>by simp only[LeL];exact⟨hf _ _ h.1,s8 hf h.2⟩| [],y::b,h=>h.elim| x::a,[],h=>h.elim
theorem QC {a b:PV}(h:Jn a b):Le a b:=by unfold Jn at h;split at h;{simp only[Le];exact s8 (λ_ _ h=>h.h) h};{simp only[Le];exact s8 (λ_ _ h=>h.h) h};{exact h.h}
theorem bB {a b:PV}(h:les a b):Le a b:=by unfold les at h;split at h;{grind [Le,s8,QC]};{grind [Le,s8,QC]};{grind [Le,y8,s8,QC]};{exact h.h}
theorem tQ {a b:List PV}(h:jH les a b):LeL a b:=s8 (λ_ _ h=>bB h) h
theorem Jp {src:List (Nat×PV)}:∀ {l:List (Nat×PV)},leT src l->∀ t,Le (zD src t) (zD l t)
 |[],_,t=>by simp[zD,Le]| (u,v)::r,h,t=>by
  simp only[zD];cases hu:nqb u t with
  |true=>have:=y8 hu;subst this;exact bB h.1| false=>exact Jp h.2 t
theorem tS {src:List (Nat×Obj')}:∀ {l:List (Nat×Obj')},leO src l->∀ {n o},(n,o)∈l->∃ o',(n,o')∈src/\Vx o' o
 |(u,x)::r,h,n,o,hm=>by simp only[yR] at hm;rcases hm with hm|hm;{cases hm;have h1:=h.1;grind [xG]};{exact tS h.2 hm}
theorem JB {n:Nat}:∀ {l:List (Nat×Obj')},DQ n l=false->n∉l.map Prod.fst
 |[],_=>by simp| (m,o)::r,h=>by simp only[DQ,Bool.or_eq_false_iff] at h;simp only[j3,yR,not_or];exact⟨λe=>by simp_all,JB h.2⟩
theorem fW:∀ {l:List (Nat×Obj')},ndO l=true->(l.map Prod.fst).Nodup
 |[],_=>List.nodup_nil| (n,o)::r,h=>by simp only[ndO,yS,Vs] at h;simp only[j3,Vr];exact⟨JB h.1,fW h.2⟩
theorem QI:∀ {hs hs':List (PV×(Unit->Nat))},hLe hs hs'->∀ {v k},(v,k)∈hs'->∃ v' k',(v',k')∈hs/\Le v' v/\k' ()=k ()
 |[],[],_,v,k,hm=>by cases hm
 |(x,j)::r,(y,l)::q,h,v,k,hm=>by rcases yR.1 hm with hm|hm;{cases hm;refine⟨x,j,wZ,h.1.1.h,?_⟩;have:=h.1.2.h;simp only[Le,true_and] at this;omega};{obtain⟨v',k',h1,h2⟩:=QI h.2 hm;grind}
 |[],y::q,h,_,_,_=>h.elim| x::r,[],h,_,_,hm=>h.elim
theorem JD:∀ {hs hs':List (PV×(Unit->Nat))},hLe hs hs'->∀ {v k},(v,k)∈hs->∃ v' k',(v',k')∈hs'/\k ()=k' ()
 |[],[],_,v,k,hm=>by cases hm
 |(x,j)::r,(y,l)::q,h,v,k,hm=>by rcases yR.1 hm with hm|hm;{cases hm;refine⟨y,l,wZ,?_⟩;have:=h.1.2.h;simp only[Le,true_and] at this;omega};{obtain⟨v',k',h1,h2⟩:=JD h.2 hm;grind}
 |[],y::q,h,_,_,hm=>h.elim| x::r,[],h,_,_,hm=>h.elim
theorem UD {s:Nat}{rows:Unit->List (List (List D))}{hs hs':List (PV×(Unit->Nat))}(h:hLe hs hs')(i:Nat):vM (.mat s rows hs) i↔vM (.mat s rows hs') i:=by show (_/\_)↔(_/\_);grind [QI,JD]
inductive ObjLe':Obj'->Obj'->Prop
 |box {a b} (h:LeL a b):ObjLe' (.box a) (.box b)
 |refl (o):ObjLe' o o
 |ll (s els):ObjLe' (.lent s els) (.log s els)
 |mat {s rows hs hs'} (h:hLe hs hs'):ObjLe' (.mat s rows hs) (.mat s rows hs')
theorem Wa {o' o:Obj'}(h:Vx o' o):ObjLe' o' o:=by
 cases o' <;> cases o <;> first
  |exact h.elim
  |exact .box (tQ h)
  |(obtain⟨hs,he⟩:=h;have:=y8 hs;subst this;cases fU he.h;first|exact .refl _|exact .ll _ _;done)
  |(obtain⟨hs,he,hh⟩:=h;have:=y8 hs;subst this;cases fU he.h;exact .mat hh)
theorem ObjAt.le {n:Nat}{o o':Obj'}(h:ObjAt w S β n o')(hl:Vx o' o):ObjAt w S β n o:=by
 cases Wa hl with
 |refl=>exact h| ll s els=>exact h.1| box hq =>
  obtain⟨b,vs,T,e1,e2,e3,e4⟩:=h;exact⟨b,vs,T,e1,e2,e3.trans (uV hq),λj hj=>(e4 j (by grind [uV])).le _ (p7 hq j hj)⟩
 | @mat s rows hs hs' hh =>
  obtain⟨hp,h5,h6⟩:=h;have hr:=λi=>UD (s:=s) (rows:=rows) hh i;refine⟨?_,λi j b hi hj=>h5 i j b ((hr i).2 hi) ((hr j).2 hj),λi b hi=>h6 i b ((hr i).2 hi)⟩;rcases hp with⟨e1,e2,e3⟩|⟨b,vs,T,h1,h2,h3,h4,h7⟩
  ·subst e3;refine .inl ⟨e1,e2,?_⟩;cases hs' with
   |nil=>rfl| cons x r=>exact hh.elim
  {exact .inr ⟨b,vs,T,h1,h2,h3,λv k hk=>by obtain⟨v',k',g1,g2,g3⟩:=QI hh hk;rw[<-g3];exact⟨(h4 v' k' g1).1,(h4 v' k' g1).2.le _ g2⟩,λi hi=>h7 i ((hr i).2 hi)⟩}
theorem BE {o o':Obj'}(hl:Vx o' o){i:Nat}(h:gF o' i):gF o i:=by
 cases Wa hl with
 |refl=>exact h| ll s els=>exact h| box hl=>exact h.elim| mat hh=>exact h.elim
theorem X3 {n:Nat}{o o':Obj'}{b:Nat}(hl:Vx o' o)(h:Own β n o b):Own β n o' b:=by
 cases Wa hl with
 |refl=>exact h| ll s els=>exact .inl (xH (by intro _ hi;exact hi) h)| box hl=>exact .inl (xH (by intro _ hi;exact hi) h)| mat hh =>
  rcases h with h|⟨i,h1,h2⟩;{exact .inl h};{exact .inr ⟨i,(UD hh i).2 h1,h2⟩}
theorem Sim.le {ps ps':PS}(h:Sim w0 S0 K0 N (zD ps.tmps) ps.objs a w S β)(ht:leT ps.tmps ps'.tmps)(ho:leO ps.objs ps'.objs)(hn:ndO ps'.objs=true):Sim w0 S0 K0 N (zD ps'.tmps) ps'.objs a w S β where
 dfr:=h.dfr
 sz:=h.sz
 ld:=h.ld
 tmp t:=(h.tmp t).le _ (Jp ht t)
 obj:=⟨fW hn,λn o hm=>by obtain⟨o',h1,h2⟩:=tS ho hm;exact (h.obj.at_ n o' h1).le h2,
  λn o b hm hβ=>by obtain⟨o',h1,h2⟩:=tS ho hm;exact⟨λi hS=>BE h2 ((h.obj.un n o' b h1 (X3 h2 hβ)).1 i hS),(h.obj.un n o' b h1 (X3 h2 hβ)).2⟩,
  λn o m o' b hm hm' hβ hβ'=>by obtain⟨x,h1,g1⟩:=tS ho hm;obtain⟨y,h2,g2⟩:=tS ho hm';exact h.obj.inj _ _ _ _ b h1 h2 (X3 g1 hβ) (X3 g2 hβ')⟩
 own n o b hm hβ:=by obtain⟨o',h1,g1⟩:=tS ho hm;exact h.own n o' b h1 (X3 g1 hβ)
 keep n o hm hb:=by obtain⟨o',h1,_⟩:=tS ho hm;exact h.keep n o' h1 hb
theorem vY {n:Nat}:∀ {l:List (Nat×PV)},pI n l=true->∀ t,xN n (zD l t)=true
 |[],_,t=>rfl| (u,v)::r,h,t=>by
  simp only[pI,yS] at h;simp only[zD];cases nqb u t with
  |true=>exact h.1| false=>exact vY h.2 t
def bM (n:Nat):Obj'->Prop
 |.box cs=>wM n cs=true| .arr _ _=>True| .log _ _=>True| .lent _ _=>True| .mat _ _ hs=>sQ n hs=true| .mp _ _=>True
theorem iJ {n u:Nat}{o:Obj'}{r:List (Nat×Obj')}(h:xO n ((u,o)::r)=true):u≠n/\bM n o/\xO n r=true:=by
 cases o with
 |box cs=>simp only[xO,yS] at h;exact⟨dX h.1.1,h.1.2,h.2⟩| arr s els=>simp only[xO,yS] at h;exact⟨dX h.1,trivial,h.2⟩| log s els=>simp only[xO,yS] at h;exact⟨dX h.1,trivial,h.2⟩| lent s els=>simp only[xO,yS] at h;exact⟨dX h.1,trivial,h.2⟩| mp t k=>simp only[xO,yS] at h;exact⟨dX h.1,trivial,h.2⟩| mat s rows hs=>simp only[xO,yS] at h;exact⟨dX h.1.1,h.1.2,h.2⟩
theorem uQ {n:Nat}{l:List (Nat×Obj')}(h:xO n l=true):n<1000000:=by
 induction l with
 |nil=>exact m6 (by grind [xO])| cons a r ih=>exact ih (iJ (u:=a.1) (o:=a.2) h).2.2
theorem y5 {n:Nat}{l:List (Nat×Obj')}(h:xO n l=true):∀ {m o},(m,o)∈l->m≠n/\bM n o:=by
 induction l with
 |nil=>grind| cons a r ih =>
  intro m o hm;obtain⟨h1,h2,h3⟩:=iJ (u:=a.1) (o:=a.2) h;grind
theorem aJ {n:Nat}:∀ {hs:List (PV×(Unit->Nat))},sQ n hs=true->∀ {v k},(v,k)∈hs->xN n v=true
 |(u,j)::r,h,v,k,hm=>by simp only[sQ,yS] at h;rcases yR.1 hm with hm|hm;{grind};{exact aJ h.2 hm}
theorem RowAt.upd {n:Nat}{x:Option Nat}{m s:Nat}{els:Unit->List (List D)}(h:RowAt w S β m s els)(hm:m≠n):RowAt w S (jB β n x) m s els:=by rcases h with⟨e0,e⟩|⟨b,vs,T,e1,rest⟩;{exact .inl ⟨by grind [wQ],e⟩};{exact .inr ⟨b,vs,T,by grind [wQ],rest⟩}
theorem ObjAt.upd {n:Nat}{x:Option Nat}{m:Nat}{o:Obj'}(h:ObjAt w S β m o)(hm:m≠n)(hf:bM n o):ObjAt w S (jB β n x) m o:=by
 cases o with
 |box cs =>
  obtain⟨b,vs,T,e1,e2,e3,e4⟩:=h;exact⟨b,vs,T,by grind [wQ],e2,e3,λj hj=>(e4 j hj).upd (xU rfl hf j)⟩
 |arr s els=>exact RowAt.upd h hm| log s els=>exact RowAt.upd h hm| lent s els =>
  obtain⟨h,hst⟩:=h;exact⟨RowAt.upd h hm,λb hb i hi=>hst b (by grind [wQ]) i hi⟩
 |mp t k=>exact MapAt.to h (wQ hm) λ_ _=>rfl| mat s rows hs =>
  obtain⟨hp,h5,h6⟩:=h;refine⟨?_,h5,λi b hi hb=>by rw[wQ hm];exact h6 i b hi hb⟩;rcases hp with⟨e1,e2,e3⟩|⟨b,vs,T,h1,h2,h3,h4,h7⟩;{grind [wQ]};{exact .inr ⟨b,vs,T,by grind [wQ],h2,h3,λv k hk=>⟨(h4 v k hk).1,(h4 v k hk).2.upd (aJ hf hk)⟩,h7⟩}
theorem Sim.freshO {ps:PS}(h:Sim w0 S0 K0 N (zD ps.tmps) ps.objs a w S β){n:Nat}{O:Obj'}(hf:yO n ps=true)(hO:∀ β':Bm,β' n=none->ObjAt w S β' n O)(hr:∀ i,¬vM O i):Sim w0 S0 K0 N (zD ps.tmps) (ps.objs++[(n,O)]) a w S (jB β n none):=by
 simp only[yO,yS] at hf;have hmem:∀ {m o},(m,o)∈ps.objs++[(n,O)]->((m,o)∈ps.objs/\m≠n)\/(m=n/\o=O):=by intro m o hm;simp only[w6,cM] at hm;rcases hm with hm|hm;{exact .inl ⟨hm,(y5 hf.2 hm).1⟩};grind
 refine⟨h.dfr,h.sz,h.ld,λt=>(h.tmp t).upd (vY hf.1 t),⟨?_,?_,?_,?_⟩,?_,?_⟩;{rw[jQ,iR];refine⟨h.obj.nd,by simp,?_⟩;intro x hx y hy e;simp at hy;subst hy e;obtain⟨⟨m,o⟩,h1,rfl⟩:=y9.1 hx;exact (y5 hf.2 h1).1 rfl};{intro m o hm;rcases hmem hm with⟨h1,h2⟩|⟨rfl,rfl⟩;{exact (h.obj.at_ m o h1).upd h2 (y5 hf.2 h1).2};{exact hO _ xA}};{intro m o b hm hβ;rcases hmem hm with⟨h1,h2⟩|⟨rfl,rfl⟩;{exact h.obj.un m o b h1 (vI h2 hβ)};{have:=xH hr hβ;grind [xA]}};{intro m o m' o' b hm hm' hβ hβ';rcases hmem hm with⟨h1,h2⟩|⟨rfl,rfl⟩;{rcases hmem hm' with⟨h3,h4⟩|⟨rfl,rfl⟩;{exact h.obj.inj _ _ _ _ b h1 h3 (vI h2 hβ) (vI h4 hβ')};{have:=xH hr hβ';grind [xA]}};{have:=xH hr hβ;grind [xA]}};{intro m o b hm hβ;rcases hmem hm with⟨h1,h2⟩|⟨rfl,rfl⟩;{exact h.own m o b h1 (vI h2 hβ)};{have:=xH hr hβ;grind [xA]}};{intro m o hm hb;rcases hmem hm with⟨h1,h2⟩|⟨rfl,rfl⟩;{rw[wQ h2];exact h.keep m o h1 hb};{have:=uQ hf.2;omega}}
theorem Sim.fresh {ps:PS}(h:Sim w0 S0 K0 N (zD ps.tmps) ps.objs a w S β){n s:Nat}(hf:yO n ps=true):Sim w0 S0 K0 N (zD ps.tmps) (ps.objs++[(n,.arr s (λ_=>[]))]) a w S (jB β n none):=h.freshO hf (λβ' h=>.inl ⟨h,rfl⟩) λ_ hi=>hi
theorem Sim.setT {ps:PS}(h:Sim w0 S0 K0 N (zD ps.tmps) objs a w S β){t:Nat}{x:PV}(hx:Rep w S β (a.tmps.getD t undef) x):Sim w0 S0 K0 N (zD (v4 ps.tmps t x)) objs a w S β :=
 ⟨h.dfr,h.sz,h.ld,λu=>by
  rw[gR];by_cases e:u=t;{grind}
  ·simpa[e] using h.tmp u,h.obj,h.own,h.keep⟩
theorem xS:∀ {l:List (Nat×Obj')} {n:Nat} {x:Obj'} {m:Nat} {o:Obj'},(l.map Prod.fst).Nodup->n∈l.map Prod.fst->(m,o)∈setO l n x->(m=n/\o=x)\/(m≠n/\(m,o)∈l)
 |(u,v)::r,n,x,m,o,hnd,hn,hm=>by
  simp only[j3,Vr] at hnd;simp only[setO] at hm;cases hu:nqb u n with
  |true =>
   have:=y8 hu;grind
  |false =>
   (have hne:u≠n:=λe=>by simp_all);simp only[hu,cond_false,yR] at hm
   rcases hm with hm|hm;{grind}
   ·(have hn':n∈r.map Prod.fst:=by grind);rcases xS hnd.2 hn' hm with h|⟨h1,h2⟩
    all_goals grind
 |[],n,x,m,o,hnd,hn,hm=>by grind
theorem uD:∀ {l:List (Nat×Obj')} {n:Nat} {x:Obj'},n∈l.map Prod.fst->(setO l n x).map Prod.fst=l.map Prod.fst
 |(u,v)::r,n,x,hn=>by
  simp only[setO];cases hu:nqb u n with
  |true=>simp_all| false =>
   (have hne:u≠n:=λe=>by simp_all);have hn':n∈r.map Prod.fst:=by grind
   simp only[cond_false,j3,uD hn']
 |[],n,x,hn=>by grind
theorem Cq:∀ {l:List (Nat×Obj')} {n:Nat} {x y:Obj'},(l.map Prod.fst).Nodup->(n,x)∈l->(n,y)∈l->x=y
 |(u,v)::r,n,x,y,hnd,h1,h2=>by simp only[j3,Vr] at hnd;rcases yR.1 h1 with e1|h1;{grind};{rcases yR.1 h2 with e2|h2;{grind};{exact Cq hnd.2 h1 h2}}
theorem Sim.lend {ps:PS}(h:Sim w0 S0 K0 N (zD ps.tmps) ps.objs a w S β){n t:Nat}{o:Obj'}{s:Nat}{els:Unit->List (List D)}(ho:yK ps.objs n=some o)(hr:VC o=some (s,els))(hf:fo n o (zD ps.tmps t)):∃ S' β',Sim w0 S0 K0 N (zD (v4 ps.tmps t (Go.Proofs.YtboocdbmnfjomaaGreat.frz n o (zD ps.tmps t)))) (Go.Proofs.YtboocdbmnfjomaaGreat.setO ps.objs n (.log s els)) a w S' β':=by
 have hmem:=xG ho;have hsz:=Hn hr;have F:FrzAt w S (λb i=>S b i\/(β n=some b/\i<szO o)) β n o:=⟨λb i=>.inl,λb h i hi=>.inr ⟨h,hi⟩,h.obj.at_ n o hmem,by cases o <;> first|rfl|cases hr⟩;have hpo:∀ i,gF o i->i<szO o:=λi hi=>by cases o <;> first|exact hi.elim|exact hi
 have hnin:n∈ps.objs.map Prod.fst:=y9.2 ⟨_,hmem,rfl⟩;have h1:Sim w0 S0 K0 N (zD ps.tmps) (Go.Proofs.YtboocdbmnfjomaaGreat.setO ps.objs n (.log s els)) a w (λb i=>S b i\/(β n=some b/\i<szO o)) β:=by
  refine⟨h.dfr,h.sz,?_,λt=>(h.tmp t).mono F.sub,⟨by rw[uD hnin];exact h.obj.nd,?_,?_,?_⟩,?_,?_⟩
  ·refine⟨h.ld.size,h.ld.os,h.ld.tape,h.ld.output,h.ld.same,h.ld.shape,?_,?_,?_⟩;{rintro b i (hS|hβ);{exact h.ld.bnd b i hS};{exact (h.obj.un n o b hmem (.inl hβ.1)).2}};{exact λb i hb hS=>.inl (h.ld.sub b i hb hS)}
   ·rintro b i hb hk (hS|hβ);{exact h.ld.old b i hb hk hS}
    ·rcases h.own n o b hmem (.inl hβ.1) with h'|h'
     all_goals grind
  {intro m x hm;rcases xS h.obj.nd hnin hm with⟨rfl,rfl⟩|⟨_,h2⟩;{exact RowAt.mono (oR hr (h.obj.at_ _ o hmem)) F.sub};{exact (h.obj.at_ m x h2).mono F.sub}};{intro m x b hm hβ;rcases xS h.obj.nd hnin hm with⟨rfl,rfl⟩|⟨hne,h2⟩;{have hβ:=xH (by intro _ hi;exact hi) hβ;refine⟨?_,(h.obj.un _ o b hmem (.inl hβ)).2⟩;rintro i (hS|hS);{have:=hpo i ((h.obj.un _ o b hmem (.inl hβ)).1 i hS);rw[hsz] at this;exact this};{rw[hsz] at hS;exact hS.2}};{refine⟨?_,(h.obj.un m x b h2 hβ).2⟩;rintro i (hS|hS);{exact (h.obj.un m x b h2 hβ).1 i hS};{exact absurd (h.obj.inj _ _ _ _ b h2 hmem hβ (.inl hS.1)) hne}}}
  ·(intro m x m' x' b hm hm' hβ hβ';have key:∀ {m x},(m,x)∈Go.Proofs.YtboocdbmnfjomaaGreat.setO ps.objs n (.log s els)->Own β m x b->∃ x',(m,x')∈ps.objs/\Own β m x' b:=by intro m x hm hb;rcases xS h.obj.nd hnin hm with⟨rfl,rfl⟩|⟨_,h2⟩;{exact⟨o,hmem,.inl (xH (by intro _ hi;exact hi) hb)⟩};grind);obtain⟨x1,h1,g1⟩:=key hm hβ;obtain⟨x2,h2,g2⟩:=key hm' hβ';exact h.obj.inj _ _ _ _ b h1 h2 g1 g2
  {intro m x b hm hβ;rcases xS h.obj.nd hnin hm with⟨rfl,rfl⟩|⟨_,h2⟩;{exact h.own _ o b hmem (.inl (xH (by intro _ hi;exact hi) hβ))};{exact h.own m x b h2 hβ}};{intro m x hm hb;rcases xS h.obj.nd hnin hm with⟨rfl,rfl⟩|⟨_,h2⟩;{exact h.keep _ o hmem hb};{exact h.keep m x h2 hb}}
 exact⟨_,β,h1.setT (Aq F (h.tmp t) hf)⟩
theorem Sim.pub {ps:PS}(h:Sim w0 S0 K0 N (zD ps.tmps) ps.objs a w S β){n:Nat}{o:Obj'}{s:Nat}{els:Unit->List (List D)}(ho:yK ps.objs n=some o)(hr:VC o=some (s,els)):∃ S' β',Sim w0 S0 K0 N (zD ps.tmps) (Go.Proofs.YtboocdbmnfjomaaGreat.setO ps.objs n (.lent s els)) a w S' β':=by
 have hmem:=xG ho;have hsz:=Hn hr;have F:FrzAt w S (λb i=>S b i\/(β n=some b/\i<szO o)) β n o:=⟨λb i=>.inl,λb h i hi=>.inr ⟨h,hi⟩,h.obj.at_ n o hmem,by cases o <;> first|rfl|cases hr⟩;have hpo:∀ i,gF o i->i<szO o:=λi hi=>by cases o <;> first|exact hi.elim|exact hi
 have hnin:n∈ps.objs.map Prod.fst:=y9.2 ⟨_,hmem,rfl⟩;have h1:Sim w0 S0 K0 N (zD ps.tmps) (Go.Proofs.YtboocdbmnfjomaaGreat.setO ps.objs n (.lent s els)) a w (λb i=>S b i\/(β n=some b/\i<szO o)) β:=by
  refine⟨h.dfr,h.sz,?_,λt=>(h.tmp t).mono F.sub,⟨by rw[uD hnin];exact h.obj.nd,?_,?_,?_⟩,?_,?_⟩
  ·refine⟨h.ld.size,h.ld.os,h.ld.tape,h.ld.output,h.ld.same,h.ld.shape,?_,?_,?_⟩;{rintro b i (hS|hβ);{exact h.ld.bnd b i hS};{exact (h.obj.un n o b hmem (.inl hβ.1)).2}};{exact λb i hb hS=>.inl (h.ld.sub b i hb hS)}
   ·rintro b i hb hk (hS|hβ);{exact h.ld.old b i hb hk hS}
    ·rcases h.own n o b hmem (.inl hβ.1) with h'|h'
     all_goals grind
  {intro m x hm;rcases xS h.obj.nd hnin hm with⟨rfl,rfl⟩|⟨_,h2⟩;{exact⟨RowAt.mono (oR hr (h.obj.at_ _ o hmem)) F.sub,λb hb i hi=>F.new b hb i oM⟩};{exact (h.obj.at_ m x h2).mono F.sub}};{intro m x b hm hβ;rcases xS h.obj.nd hnin hm with⟨rfl,rfl⟩|⟨hne,h2⟩;{have hβ:=xH (by intro _ hi;exact hi) hβ;refine⟨?_,(h.obj.un _ o b hmem (.inl hβ)).2⟩;rintro i (hS|hS);{have:=hpo i ((h.obj.un _ o b hmem (.inl hβ)).1 i hS);rw[hsz] at this;exact this};{rw[hsz] at hS;exact hS.2}};{refine⟨?_,(h.obj.un m x b h2 hβ).2⟩;rintro i (hS|hS);{exact (h.obj.un m x b h2 hβ).1 i hS};{exact absurd (h.obj.inj _ _ _ _ b h2 hmem hβ (.inl hS.1)) hne}}}
  ·(intro m x m' x' b hm hm' hβ hβ';have key:∀ {m x},(m,x)∈Go.Proofs.YtboocdbmnfjomaaGreat.setO ps.objs n (.lent s els)->Own β m x b->∃ x',(m,x')∈ps.objs/\Own β m x' b:=by intro m x hm hb;rcases xS h.obj.nd hnin hm with⟨rfl,rfl⟩|⟨_,h2⟩;{exact⟨o,hmem,.inl (xH (by intro _ hi;exact hi) hb)⟩};grind);obtain⟨x1,h1,g1⟩:=key hm hβ;obtain⟨x2,h2,g2⟩:=key hm' hβ';exact h.obj.inj _ _ _ _ b h1 h2 g1 g2
  {intro m x b hm hβ;rcases xS h.obj.nd hnin hm with⟨rfl,rfl⟩|⟨_,h2⟩;{exact h.own _ o b hmem (.inl (xH (by intro _ hi;exact hi) hβ))};{exact h.own m x b h2 hβ}};{intro m x hm hb;rcases xS h.obj.nd hnin hm with⟨rfl,rfl⟩|⟨_,h2⟩;{exact h.keep _ o hmem hb};{exact h.keep m x h2 hb}}
 grind
theorem Sim.setO (h:Sim w0 S0 K0 N τ objs a w S β){n:Nat}{x:Obj'}(hn:n∈objs.map Prod.fst)(hx:ObjAt w S β n x)(hpub:∀ o0,(n,o0)∈objs->∀ i,gF o0 i->gF x i)(hown:∀ o0,(n,o0)∈objs->∀ b,Own β n x b->Own β n o0 b):Sim w0 S0 K0 N τ (Go.Proofs.YtboocdbmnfjomaaGreat.setO objs n x) a w S β:=by
 obtain⟨⟨n',o0⟩,hm0,rfl⟩:=y9.1 hn;have key:∀ {m o b},(m,o)∈Go.Proofs.YtboocdbmnfjomaaGreat.setO objs n' x->Own β m o b->∃ o',(m,o')∈objs/\Own β m o' b:=by
  intro m o b hm hb;rcases xS h.obj.nd hn hm with⟨rfl,rfl⟩|⟨_,h2⟩
  all_goals grind
 have key0:∀ {m o},(m,o)∈Go.Proofs.YtboocdbmnfjomaaGreat.setO objs n' x->∃ o',(m,o')∈objs:=by
  intro m o hm;rcases xS h.obj.nd hn hm with⟨rfl,rfl⟩|⟨_,h2⟩
  all_goals grind
 refine⟨h.dfr,h.sz,h.ld,h.tmp,⟨by rw[uD hn];exact h.obj.nd,?_,?_,?_⟩,?_,?_⟩;{intro m o hm;rcases xS h.obj.nd hn hm with⟨rfl,rfl⟩|⟨_,h2⟩;{exact hx};{exact h.obj.at_ m o h2}};{intro m o b hm hβ;rcases xS h.obj.nd hn hm with⟨rfl,rfl⟩|⟨_,h2⟩;{have hβ:=hown o0 hm0 b hβ;exact⟨λi hS=>hpub o0 hm0 i ((h.obj.un _ o0 b hm0 hβ).1 i hS),(h.obj.un _ o0 b hm0 hβ).2⟩};{exact h.obj.un m o b h2 hβ}};{intro m o m' o' b hm hm' hβ hβ';obtain⟨x1,h1,g1⟩:=key hm hβ;obtain⟨x2,h2,g2⟩:=key hm' hβ';exact h.obj.inj _ _ _ _ b h1 h2 g1 g2};{intro m o b hm hβ;obtain⟨o',h1,g1⟩:=key hm hβ;exact h.own m o' b h1 g1};{intro m o hm hb;obtain⟨o',h1⟩:=key0 hm;exact h.keep m o' h1 hb}
theorem KL (cs:List PV)(j k:Nat)(x:PV)(hk:k<cs.length):(cs.set j x).getD k .any=if j=k then x else cs.getD k .any:=by grind
theorem oN {n:Nat}{v pv}(h:Rep w S β v pv):Rep w S β v (sc0 n pv):=by
 cases pv with
 |agg cs=>exact xV _| tup cs=>exact xV _| fn f cs=>exact xV _| ptr m off=>simp only[sc0];cases nqb m n <;> first|exact h|exact xV _
 |aptr m s i off=>simp only[sc0];cases nqb m n <;> first|exact h|exact xV _
 |osl m s i len=>simp only[sc0];cases nqb m n <;> first|exact h|exact xV _
 |mpv m=>simp only[sc0];cases nqb m n <;> first|exact h|exact xV _
 |_=>exact h
theorem U7 {n:Nat}{v pv}(h:Rep w S β v pv):Rep w S β v (sc1 n pv):=by
 cases pv with
 |agg cs =>
  obtain⟨vs,rfl,h1,h2⟩:=kC h;exact .agg (by grind [zO]) λj hj=>by rw[zO] at hj;rw[yQ _ rfl];grind [oN]
 |tup cs =>
  obtain⟨vs,rfl,h1,h2⟩:=dH h;exact .tup (by grind [zO]) λj hj=>by rw[zO] at hj;rw[yQ _ rfl];grind [oN]
 |fn f cs =>
  obtain⟨vs,rfl,h1,h2⟩:=dJ h;exact .fn (by grind [zO]) λj hj=>by rw[zO] at hj;rw[yQ _ rfl];grind [oN]
 |_=>exact oN (n:=n) h
theorem YY {n:Nat}{v pv}(h:Rep w S β v pv):Rep w S β v (scr n pv):=by
 cases pv with
 |agg cs =>
  obtain⟨vs,rfl,h1,h2⟩:=kC h;exact .agg (by grind [zO]) λj hj=>by rw[zO] at hj;rw[yQ _ rfl];grind [U7]
 |tup cs =>
  obtain⟨vs,rfl,h1,h2⟩:=dH h;exact .tup (by grind [zO]) λj hj=>by rw[zO] at hj;rw[yQ _ rfl];grind [U7]
 |fn f cs =>
  obtain⟨vs,rfl,h1,h2⟩:=dJ h;exact .fn (by grind [zO]) λj hj=>by rw[zO] at hj;rw[yQ _ rfl];grind [U7]
 |_=>exact oN (n:=n) h
theorem aF (n:Nat):scr n .any=.any:=rfl
theorem Sim.drop {ps:PS}(h:Sim w0 S0 K0 N (zD ps.tmps) ps.objs a w S β)(n:Nat):Sim w0 S0 K0 N (zD (wF (scr n) ps.tmps)) (xB (scr n) (xP ps.objs n)) a w S β:=by
 refine⟨h.dfr,h.sz,h.ld,λt=>by rw[uO _ (aF n)];exact YY (h.tmp t),⟨?_,?_,?_,?_⟩,?_,?_⟩;{rw[fH];exact (nJ _ _).nodup h.obj.nd}
 ·intro m o' hm;obtain⟨o'',h1,h2⟩:=wW _ hm;obtain⟨h3,h4⟩:=wX h1;have hat:=h.obj.at_ m o'' h3;cases o'' with
  |box cs =>
   subst h2;obtain⟨b,vs,T,e1,e2,e3,e4⟩:=hat;exact⟨b,vs,T,e1,e2,by grind [zO],λj hj=>by grind [zO,yQ,aF,YY]⟩
  |arr s els=>subst h2;exact hat| log s els=>subst h2;exact hat| lent s els=>subst h2;exact hat| mp t k=>subst h2;exact hat| mat s rows hs=>subst h2;exact MatAt.map hat (λ_ _ h=>h) λv x k hk hv=>YY hv
 {intro m o' b hm hβ;obtain⟨o'',h1,rfl⟩:=wW _ hm;have:=h.obj.un m o'' b (wX h1).1 (uG hβ);grind [pJ]};{intro m o' m' o'' b hm hm' hβ hβ';obtain⟨x,h1,rfl⟩:=wW _ hm;obtain⟨y,h2,rfl⟩:=wW _ hm';exact h.obj.inj _ _ _ _ b (wX h1).1 (wX h2).1 (uG hβ) (uG hβ')};{intro m o' b hm hβ;obtain⟨x,h1,rfl⟩:=wW _ hm;exact h.own m x b (wX h1).1 (uG hβ)};{intro m o' hm hb;obtain⟨x,h1,_⟩:=wW _ hm;exact h.keep m x (wX h1).1 hb}
theorem Sim.adopt {ps:PS}(h:Sim w0 S0 K0 N (zD ps.tmps) ps.objs a w S β){n s m j:Nat}{cs:List PV}{O:Obj'}(hO:∀ β':Bm,β' n=none->ObjAt w S β' n O)(hr:∀ i,¬vM O i)(hf:yO n ps=true)(ho:yK ps.objs m=some (.box cs))(hj:jV (cs.getD j .any)=true):∃ S' β',Sim w0 S0 K0 N (zD ps.tmps) (Go.Proofs.YtboocdbmnfjomaaGreat.setO ps.objs m (.box (cs.set j (.osl n s (λ_=>0) (λ_=>0))))++[(n,O)]) a w S' β':=by
 have hmem:=xG ho;have hf':=hf;simp only[yO,yS] at hf';have hmn:=(y5 hf'.2 hmem).1;have h1:=h.freshO hf hO hr;obtain⟨b,vs,T,e1,e2,e3,e4⟩:=h.obj.at_ m _ hmem;have hin:m∈(ps.objs++[(n,O)]).map Prod.fst:=by grind
 have hjl:j<cs.length:=by refine Nat.lt_of_not_le λh=>?_;rw[wK,rW h] at hj;cases hj
 have h2:=h1.setO (n:=m) (x:=.box (cs.set j (.osl n s (λ_=>0) (λ_=>0)))) hin ⟨b,vs,T,by grind [wQ],e2,by grind,λk hk=>by
  simp only[cL] at hk;rw[KL _ _ _ _ hk];by_cases hjk:j=k;{subst hjk;rw[if_pos rfl];have:=e4 j hk;obtain⟨⟨av,hv⟩,_⟩:=oU hj this;rw[hv];exact .osl0 xA rfl rfl}
  ·rw[if_neg hjk];exact (e4 k hk).upd (xU rfl (y5 hf'.2 hmem).2 k)⟩ (λo0 ho0 i hp=>by
  have hms:(m,Obj'.box cs)∈ps.objs++[(n,O)]:=ZE _ hmem;have:=Cq h1.obj.nd ho0 hms;rw[this] at hp;exact hp.elim) (λo0 _ b hb=>.inl (xH (by intro _ hi;exact hi) hb))
 refine⟨S,jB β n none,?_⟩;have:Go.Proofs.YtboocdbmnfjomaaGreat.setO (ps.objs++[(n,O)]) m (.box (cs.set j (.osl n s (λ_=>0) (λ_=>0))))=Go.Proofs.YtboocdbmnfjomaaGreat.setO ps.objs m (.box (cs.set j (.osl n s (λ_=>0) (λ_=>0))))++[(n,O)]:=by
  have gen:∀ (l:List (Nat×Obj')) (k:List (Nat×Obj')) (x:Obj'),m∈l.map Prod.fst->Go.Proofs.YtboocdbmnfjomaaGreat.setO (l++k) m x=Go.Proofs.YtboocdbmnfjomaaGreat.setO l m x++k:=by
   intro l k x hm;induction l with
   |nil=>grind| cons p r ih =>
    obtain⟨u,v⟩:=p;simp only[Vq,Go.Proofs.YtboocdbmnfjomaaGreat.setO];cases hu:nqb u m with
    |true=>rfl| false =>
     (have hne:u≠m:=λe=>by simp_all);grind
  grind
 grind
theorem m8 (f:PV->PV):∀ (l k:List (PV×(Unit->Nat))),gQ f (l++k)=gQ f l++gQ f k
 |[],k=>rfl| (v,i)::r,k=>by simp only[Vq,gQ,m8 f r k]
theorem Sim.focus {ps:PS}(h:Sim w0 S0 K0 N (zD ps.tmps) ps.objs a w S β){n k:Nat}{i:Unit->Nat}{s:Nat}{rows:Unit->List (List (List D))}{hs:List (PV×(Unit->Nat))}(ho:yK ps.objs n=some (.mat s rows hs))(hf:yO k ps=true)(hi:FocOk i rows hs):Sim w0 S0 K0 N (zD ps.tmps) (Go.Proofs.YtboocdbmnfjomaaGreat.setO ps.objs n (.mat s rows ((.osl k s (λ_=>0) (λ_=>((rows ()).getD (i ()) []).length),i)::hs))++[(k,.arr s (λ_=>(rows ()).getD (i ()) []))]) a w S (jB β k (β.r n (i ()))):=by
 have hmem:=xG ho;simp only[yO,yS] at hf;obtain⟨hil,hih⟩:=hi.h;have hnk:n≠k:=(y5 hf.2 hmem).1;have hM:MatAt w S β n s rows hs:=h.obj.at_ n _ hmem;have hri:vM (.mat s rows hs) (i ()):=⟨hil,hih⟩;have hnin:n∈ps.objs.map Prod.fst:=y9.2 ⟨_,hmem,rfl⟩;obtain⟨b0,vs,T,hβ,hb,hsz,hhs,hrs⟩:∃ (b:Nat) (vs:Array Value) (T:TypeId),β n=some b/\w.heap[b]?=some (.cells vs T (0,0))/\(rows ()).length<=vs.size /\
   (∀ v k,(v,k)∈hs->k ()<(rows ()).length/\Rep w S β (vs.getD (k ()) undef) v)/\∀ i,vM (.mat s rows hs) i->RowIn w S (β.r n i) (vs.getD i undef) s ((rows ()).getD i []):=by
  rcases hM.pl with⟨_,h2,_⟩|h2
  all_goals grind
 have hrow:=hrs _ hri;have hsub:∀ {j},vM (.mat s rows ((.osl k s (λ_=>0) (λ_=>((rows ()).getD (i ()) []).length),i)::hs)) j->vM (.mat s rows hs) j/\j≠i () :=
  λhj=>⟨⟨hj.1,λv k' hk'=>hj.2 v k' (wJ _ hk')⟩,λe=>hj.2 _ i wZ e.symm⟩
 have key:∀ {m o},(m,o)∈Go.Proofs.YtboocdbmnfjomaaGreat.setO ps.objs n (.mat s rows ((.osl k s (λ_=>0) (λ_=>((rows ()).getD (i ()) []).length),i)::hs))++[(k,Obj'.arr s (λ_=>(rows ()).getD (i ()) []))] ->
   (m=n/\o=.mat s rows ((.osl k s (λ_=>0) (λ_=>((rows ()).getD (i ()) []).length),i)::hs))\/(m≠n/\m≠k/\(m,o)∈ps.objs)\/(m=k/\o=.arr s (λ_=>(rows ()).getD (i ()) [])):=by
  intro m o hm;rcases w6.1 hm with hm|hm;{rcases xS h.obj.nd hnin hm with h1|⟨h1,h2⟩;{grind};{exact .inr (.inl ⟨h1,(y5 hf.2 h2).1,h2⟩)}};grind
 
 have own:∀ {m o b},(m,o)∈Go.Proofs.YtboocdbmnfjomaaGreat.setO ps.objs n (.mat s rows ((.osl k s (λ_=>0) (λ_=>((rows ()).getD (i ()) []).length),i)::hs))++[(k,Obj'.arr s (λ_=>(rows ()).getD (i ()) []))]->Own (jB β k (β.r n (i ()))) m o b ->
   (m=n/\Own β n (.mat s rows hs) b/\β.r n (i ())≠some b)\/(m≠n/\m≠k/\(m,o)∈ps.objs/\Own β m o b)\/(m=k/\β.r n (i ())=some b):=by
  intro m o b hm hb';rcases key hm with⟨rfl,rfl⟩|⟨h1,h2,h3⟩|⟨rfl,rfl⟩;{refine .inl ⟨rfl,?_⟩;rcases hb' with e|⟨j,hj,e⟩;{rw[wQ hnk] at e;exact⟨.inl e,λe'=>hM.ne _ _ hri e' e⟩};{have e:β.r m j=some b:=e;exact⟨.inr ⟨j,(hsub hj).1,e⟩,λe'=>(hsub hj).2 (hM.inj _ _ _ (hsub hj).1 hri e e')⟩}};{grind [vI]};{have:=xH (by intro _ hi;exact hi) hb';rw[xA] at this;grind}
 refine⟨h.dfr,h.sz,h.ld,λt=>(h.tmp t).upd (vY hf.1 t),⟨?_,?_,?_,?_⟩,?_,?_⟩;{rw[jQ,iR,uD hnin];refine⟨h.obj.nd,by simp,?_⟩;intro x hx y hy e;simp at hy;subst hy e;obtain⟨⟨m,o⟩,h1,rfl⟩:=y9.1 hx;exact (y5 hf.2 h1).1 rfl}
 ·intro m o hm;rcases key hm with⟨rfl,rfl⟩|⟨h1,h2,h3⟩|⟨rfl,rfl⟩
  ·refine⟨.inr ⟨b0,vs,T,by grind [wQ],hb,hsz,?_,λj hj=>hrs j (hsub hj).1⟩,λj j' b hj hj'=>hM.inj j j' b (hsub hj).1 (hsub hj').1,λj b hj e=>by rw[wQ hnk];exact hM.ne j b (hsub hj).1 e⟩;intro v k' hk';rcases yR.1 hk' with e|hk'
   ·(cases e;refine⟨hil,?_⟩;rcases hrow with⟨e1,e2,aa,e3⟩|⟨b,cap,us,T',e1,e2,e3,e4,e5,_⟩);{rw[e3];exact .osl0 (by grind [xA]) rfl (by grind)}
    {rw[e2];have:=Rep.osl (w:=w) (S:=S) (β:=jB β k (β.r m (i ()))) (n:=k) (s:=s) (cap:=cap) (b:=b) (o:=λ_=>0) (len:=λ_=>((rows ()).getD (i ()) []).length) (by rw[xA];exact e1) e3 e4 (by grind);grind}
   {exact⟨(hhs v k' hk').1,(hhs v k' hk').2.upd (aJ (y5 hf.2 hmem).2 hk')⟩}
  {exact (h.obj.at_ m o h3).upd h2 (y5 hf.2 h3).2};{rcases hrow with⟨e1,e2,_⟩|⟨b,cap,us,T',e1,_,e3,e4,e5,e6,e7⟩;{exact .inl ⟨by grind [xA],e2⟩};{exact .inr ⟨b,us,T',by rw[xA];exact e1,e4,vV (uU _ e3) e5,e6,e7⟩}}
 {intro m o b hm hb';rcases own hm hb' with⟨rfl,h1,_⟩|⟨_,_,h3,h4⟩|⟨rfl,h1⟩;{refine⟨λj hS=>(h.obj.un _ _ b hmem h1).1 j hS |>.elim,(h.obj.un _ _ b hmem h1).2⟩};{exact h.obj.un m o b h3 h4};{refine⟨λj hS=>(h.obj.un _ _ b hmem (.inr ⟨_,hri,h1⟩)).1 j hS |>.elim,(h.obj.un _ _ b hmem (.inr ⟨_,hri,h1⟩)).2⟩}}
 ·(intro m o m' o' b hm hm' hb1 hb2;rcases own hm hb1 with⟨rfl,h1,g1⟩|⟨h2,_,h3,h4⟩|⟨rfl,h1⟩ <;> rcases own hm' hb2 with⟨rfl,h1',g1'⟩|⟨h2',_,h3',h4'⟩|⟨rfl,h1'⟩);{rfl}
  {exact h.obj.inj _ _ _ _ b hmem h3' h1 h4'};{grind};{exact h.obj.inj _ _ _ _ b h3 hmem h4 h1'};{exact h.obj.inj _ _ _ _ b h3 h3' h4 h4'};{exact absurd (h.obj.inj _ _ _ _ b h3 hmem h4 (.inr ⟨_,hri,h1'⟩)) h2};{grind};{exact absurd (h.obj.inj _ _ _ _ b h3' hmem h4' (.inr ⟨_,hri,h1⟩)) h2'};{rfl}
 {intro m o b hm hb';rcases own hm hb' with⟨rfl,h1,_⟩|⟨_,_,h3,h4⟩|⟨rfl,h1⟩;{exact h.own _ _ b hmem h1};{exact h.own m o b h3 h4};{exact h.own _ _ b hmem (.inr ⟨_,hri,h1⟩)}};{intro m o hm hb';rcases key hm with⟨rfl,rfl⟩|⟨h1,h2,h3⟩|⟨rfl,rfl⟩;{rw[wQ hnk];exact h.keep _ _ hmem hb'};{rw[wQ h2];exact h.keep m o h3 hb'};{have:=uQ hf.2;omega}}
def updR (β:Bm) (n i:Nat) (x:Option Nat):Bm:=⟨β.o,λm j=>if m=n/\j=i then x else β.r m j⟩
theorem oH {β:Bm}{n i:Nat}{x:Option Nat}:(updR β n i x).r n i=x:=by simp[updR]
theorem dD {β:Bm}{n i m j:Nat}{x:Option Nat}(h:m≠n\/j≠i):(updR β n i x).r m j=β.r m j:=by show (if m=n/\j=i then x else β.r m j)=β.r m j;grind
theorem ObjAt.updR {n i:Nat}{x:Option Nat}{m:Nat}{o:Obj'}(h:ObjAt w S β m o)(hm:m≠n):ObjAt w S (updR β n i x) m o:=by
 have hp:∀ {v pv},Rep w S β v pv->Rep w S (Go.Proofs.YtboocdbmnfjomaaGreat.updR β n i x) v pv:=λh=>Rep.place (β:=β) (βf:=Go.Proofs.YtboocdbmnfjomaaGreat.updR β n i x) (λ_=>rfl) h;cases o with
 |box cs =>
  obtain⟨b,vs,T,e1,e2,e3,e4⟩:=h;exact⟨b,vs,T,e1,e2,e3,λj hj=>hp (e4 j hj)⟩
 |arr s els=>exact h| log s els=>exact h| lent s els=>exact h| mp t k=>exact h| mat s rows hs =>
  obtain⟨h1,h2,h3⟩:=h;refine⟨?_,λj j' b hj hj'=>by grind [dD],λj b hj=>by rw[dD (.inl hm)];exact h3 j b hj⟩;rcases h1 with h1|⟨b,vs,T,e1,e2,e3,e4,e5⟩;{exact .inl h1};{exact .inr ⟨b,vs,T,e1,e2,e3,λv k hk=>⟨(e4 v k hk).1,hp (e4 v k hk).2⟩,λj hj=>by grind [dD]⟩}
theorem Sim.rowIn {objs:List (Nat×Obj')}(h:Sim w0 S0 K0 N τ objs a w S β){n s:Nat}{rows:Unit->List (List (List D))}{hs1 hs2:List (PV×(Unit->Nat))}{v0:PV}{i:Unit->Nat}(hmem:(n,Obj'.mat s rows (hs1++(v0,i)::hs2))∈objs) {x:Option Nat} {els:List (List D)} (hx:∀ b vs T,β n=some b->w.heap[b]?=some (.cells vs T (0,0))->RowIn w S x (vs.getD (i ()) undef) s els) (hfree:∀ b,x=some b->(∀ m o,(m,o)∈objs->¬Own β m o b)/\(w0.heap.size<=b\/K0 b)/\b<w.heap.size/\∀ j,¬S b j):Sim w0 S0 K0 N τ (Go.Proofs.YtboocdbmnfjomaaGreat.setO objs n (.mat s (λ_=>(rows ()).set (i ()) els) (hs1++hs2))) a w S (updR β n (i ()) x):=by
 have hM:MatAt w S β n s rows (hs1++(v0,i)::hs2):=h.obj.at_ n _ hmem;have hnin:n∈objs.map Prod.fst:=y9.2 ⟨_,hmem,rfl⟩;have hp:∀ {v pv},Rep w S β v pv->Rep w S (updR β n (i ()) x) v pv:=λh=>Rep.place (β:=β) (βf:=updR β n (i ()) x) (λ_=>rfl) h;have hin:∀ {v k},(v,k)∈hs1++hs2->(v,k)∈hs1++(v0,i)::hs2:=λhk=>by grind
 obtain⟨b0,vs,T,hβ,hb,hsz,hhs,hrs⟩:∃ (b:Nat) (vs:Array Value) (T:TypeId),β n=some b/\w.heap[b]?=some (.cells vs T (0,0))/\(rows ()).length<=vs.size /\
   (∀ v k,(v,k)∈hs1++(v0,i)::hs2->k ()<(rows ()).length/\Rep w S β (vs.getD (k ()) undef) v)/\∀ j,vM (.mat s rows (hs1++(v0,i)::hs2)) j->RowIn w S (β.r n j) (vs.getD j undef) s ((rows ()).getD j []):=by
  rcases hM.pl with⟨_,_,h2⟩|h2;{grind};omega
 have hil:i ()<(rows ()).length:=(hhs v0 i (nQ _ wZ)).1;have hrow:∀ {j},vM (.mat s (λ_=>(rows ()).set (i ()) els) (hs1++hs2)) j->j≠i ()->vM (.mat s rows (hs1++(v0,i)::hs2)) j:=by intro j hj hne;refine⟨by simpa using hj.1,λv k hk=>?_⟩;rcases w6.1 hk with h'|h';{exact hj.2 v k (ZE _ h')};{rcases yR.1 h' with e|h';{grind};{exact hj.2 v k (nQ _ h')}}
 have key:∀ {m o},(m,o)∈Go.Proofs.YtboocdbmnfjomaaGreat.setO objs n (.mat s (λ_=>(rows ()).set (i ()) els) (hs1++hs2))->(m=n/\o=.mat s (λ_=>(rows ()).set (i ()) els) (hs1++hs2))\/(m≠n/\(m,o)∈objs):=λhm=>xS h.obj.nd hnin hm;have own:∀ {m o b},(m,o)∈Go.Proofs.YtboocdbmnfjomaaGreat.setO objs n (.mat s (λ_=>(rows ()).set (i ()) els) (hs1++hs2))->Own (updR β n (i ()) x) m o b->(m=n/\x=some b)\/∃ o',(m,o')∈objs/\Own β m o' b/\(m≠n->o'=o):=by intro m o b hm hb';rcases key hm with⟨rfl,rfl⟩|⟨h1,h2⟩;{rcases hb' with e|⟨j,hj,e⟩;{exact .inr ⟨_,hmem,.inl e,λh=>absurd rfl h⟩};{by_cases hji:j=i ();{subst hji;rw[oH] at e;grind};{rw[dD (.inr hji)] at e;exact .inr ⟨_,hmem,.inr ⟨j,hrow hj hji,e⟩,λh=>absurd rfl h⟩}}};{refine .inr ⟨o,h2,?_,λ_=>rfl⟩;rcases hb' with e|⟨j,hj,e⟩;{exact .inl e};{rw[dD (.inl h1)] at e;exact .inr ⟨j,hj,e⟩}}
 refine⟨h.dfr,h.sz,h.ld,λt=>hp (h.tmp t),⟨by rw[uD hnin];exact h.obj.nd,?_,?_,?_⟩,?_,?_⟩
 ·intro m o hm;rcases key hm with⟨rfl,rfl⟩|⟨h1,h2⟩
  ·refine⟨.inr ⟨b0,vs,T,hβ,hb,by grind,λv k hk=>⟨by grind,hp (hhs v k (hin hk)).2⟩,λj hj=>?_⟩,?_,?_⟩;{by_cases hji:j=i ();{subst hji;rw[oH];grind};{rw[dD (.inr hji)];grind}}
   ·(intro j j' b hj hj' e e';by_cases hji:j=i () <;> by_cases hji':j'=i ());{omega}
    {subst hji;rw[oH] at e;rw[dD (.inr hji')] at e';exact absurd (.inr ⟨j',hrow hj' hji',e'⟩) ((hfree b e).1 m _ hmem)};{subst hji';rw[oH] at e';rw[dD (.inr hji)] at e;exact absurd (.inr ⟨j,hrow hj hji,e⟩) ((hfree b e').1 m _ hmem)};{rw[dD (.inr hji)] at e;rw[dD (.inr hji')] at e';exact hM.inj j j' b (hrow hj hji) (hrow hj' hji') e e'}
   {intro j b hj e e';by_cases hji:j=i ();{subst hji;rw[oH] at e;exact (hfree b e).1 m _ hmem (.inl e')};{rw[dD (.inr hji)] at e;exact hM.ne j b (hrow hj hji) e e'}}
  {exact (h.obj.at_ m o h2).updR h1}
 {intro m o b hm hb';rcases own hm hb' with⟨rfl,e⟩|⟨o',h1,h2,h3⟩;{grind};{refine⟨λj hS=>?_,(h.obj.un m o' b h1 h2).2⟩;have h4:=(h.obj.un m o' b h1 h2).1 j hS;by_cases hmn:m=n;{subst hmn;have:=Cq h.obj.nd h1 hmem;rw[this] at h4;exact h4.elim};grind}}
 ·(intro m o m' o' b hm hm' hb1 hb2;rcases own hm hb1 with⟨rfl,e⟩|⟨o1,h1,h2,_⟩ <;> rcases own hm' hb2 with⟨rfl,e'⟩|⟨o2,h1',h2',_⟩);{rfl}
  {grind};{grind};{exact h.obj.inj _ _ _ _ b h1 h1' h2 h2'}
 {intro m o b hm hb';rcases own hm hb' with⟨rfl,e⟩|⟨o',h1,h2,_⟩;{grind};{exact h.own m o' b h1 h2}};{intro m o hm hb';rcases key hm with⟨rfl,rfl⟩|⟨h1,h2⟩;{exact h.keep _ _ hmem hb'};{exact h.keep m o h2 hb'}}
theorem pO:∀ {l:List (Nat×Obj')} {n m:Nat} {o:Obj'},(m,o)∈l->m≠n->(m,o)∈xP l n
 |(u,v)::r,n,m,o,hm,hne=>by
  simp only[xP];cases hu:nqb u n with
  |true =>
   rcases yR.1 hm with e|hm;{simp_all};{exact pO hm hne}
  |false =>
   rcases yR.1 hm with e|hm;{grind};{exact wJ _ (pO hm hne)}
theorem pN (f:PV->PV):∀ {l:List (Nat×Obj')} {n:Nat} {o:Obj'},(n,o)∈l->(n,x7 f o)∈xB f l
 |(u,v)::r,n,o,hm=>by rcases yR.1 hm with e|hm;{cases e;cases v <;> exact wZ};{have:=pN f hm;cases v <;> exact wJ _ this}
theorem Sim.unfocus {ps:PS}(h:Sim w0 S0 K0 N (zD ps.tmps) ps.objs a w S β){n k:Nat}{hs1 hs2:List (PV×(Unit->Nat))}{s:Nat}{rows:Unit->List (List (List D))}{i o len:Unit->Nat}{els:Unit->List (List D)}(ho:yK ps.objs n=some (.mat s rows (hs1++(.osl k s o len,i)::hs2)))(hk:yK ps.objs k=some (.arr s els))(hne:nqb n k=false)(h0:o ()=0/\len ()=(els ()).length):Sim w0 S0 K0 N (zD (wF (scr k) ps.tmps)) (Go.Proofs.YtboocdbmnfjomaaGreat.setO (xB (scr k) (xP ps.objs k)) n (.mat s (λ_=>(rows ()).set (i ()) (els ())) (gQ (scr k) (hs1++hs2)))) a w S (updR β n (i ()) (β k)):=by
 have hnk:n≠k:=λe=>by grind
 have hmem:=xG ho;have hmk:=xG hk;have hR:RowAt w S β k s els:=h.obj.at_ k _ hmk;have hM:MatAt w S β n s rows (hs1++(.osl k s o len,i)::hs2):=h.obj.at_ n _ hmem;have hin:(n,Obj'.mat s rows (gQ (scr k) hs1++(scr k (.osl k s o len),i)::gQ (scr k) hs2))∈xB (scr k) (xP ps.objs k):=by have:=pN (scr k) (pO hmem hnk);grind [x7,m8,gQ]
 rw[m8];refine Sim.rowIn (h.drop k) hin ?_ ?_
 ·intro b vs T hb hw;rcases hM.pl with⟨_,_,h2⟩|⟨b',vs',T',e1,e2,_,e4,_⟩;{grind}
  ·(rw[hb] at e1;cases e1;rw[hw] at e2;cases e2;have hr:=(e4 _ i (nQ _ wZ)).2;generalize vs.getD (i ()) undef=v at hr ⊢;rcases hR with⟨e5,e6⟩|⟨bk,us,Tk,e5,e6,e7,e8,e9⟩);{refine .inl ⟨e5,e6,?_⟩;grind [qG]}
   {rcases qG hr with⟨g1,_⟩|⟨b1,cap,us1,T1,g1,g3,g4,g5,hv⟩;{grind};{rw[e5] at g1;cases g1;rw[e6] at g4;cases g4;rw[h0.1] at hv g5;refine .inr ⟨bk,cap,us,Tk,e5,by grind,by omega,e6,by grind,e8,e9⟩}}
 {intro b hb;have hob:Own β k (.arr s els) b:=.inl hb;refine⟨λm o' hm hb'=>?_,h.own k _ b hmk hob,(h.obj.un k _ b hmk hob).2,λj hS=>(h.obj.un k _ b hmk hob).1 j hS⟩;obtain⟨o'',h1,rfl⟩:=wW _ hm;obtain⟨h3,h4⟩:=wX h1;exact h4 (h.obj.inj _ _ _ _ b h3 hmk (uG hb') hob)}
theorem Wk.sound {ps ps':PS}(k:Wk ps ps'):∀ {S β},Sim w0 S0 K0 N (zD ps.tmps) ps.objs a w S β->∃ S' β',Sim w0 S0 K0 N (zD ps'.tmps) ps'.objs a w S' β':=by
 induction k with
 |refl ps=>grind| le ht ho hn=>intro S β h;exact⟨S,β,h.le ht ho hn⟩| frz n ho hc hT hO=>intro S β h;exact h.frz ho hc hT hO| lend n t ho hr hf=>intro S β h;exact h.lend ho hr hf| pub n ho hr=>intro S β h;exact h.pub ho hr| fresh n s hf=>intro S β h;exact⟨S,jB β n none,h.fresh hf⟩| drop n=>intro S β h;exact⟨S,β,h.drop n⟩| adoptT n s t hf ht =>
  intro S β h;refine⟨S,jB β n none,(h.fresh hf).setT ?_⟩;have:=h.tmp t;obtain⟨⟨av,hv⟩,_⟩:=oU ht this;rw[hv];exact .osl0 xA rfl rfl
 |adoptB n s m j hf ho hj=>intro S β h;exact h.adopt (λβ' h=>.inl ⟨h,rfl⟩) (λ_ hi=>hi) hf ho hj| adoptM n s m j hf ho hj=>intro S β h;exact h.adopt (λβ' h=>⟨.inl ⟨h,rfl,rfl⟩,λi j b hi=>absurd hi.1 (by simp),λi b hi=>absurd hi.1 (by simp)⟩) (λ_ hi=>absurd hi.1 (by simp)) hf ho (by rw[wK,hj];rfl)| focus n k i ho hf hi=>intro S β h;exact⟨S,_,h.focus ho hf hi⟩| unfocus n k hs1 hs2 ho hk hne h0=>intro S β h;exact⟨S,_,h.unfocus ho hk hne h0⟩| trans _ _ ih1 ih2=>grind
theorem DL (h:Sim w0 S0 K0 N τ objs a w S β){pv:PV}{v:Value}{K:PV->Prop}(hl:ldV objs pv K)(hr:Rep w S β v pv):∃ pv',K pv'/\Rep w S β v pv':=by
 unfold ldV at hl;cases hn:lnt objs pv with
 |false=>grind| true =>
  rw[hn] at hl;rcases hl.h with hK|⟨n,s,els,h1,h2,h3⟩;{grind};{have hat:=h.obj.at_ n _ (xG h1);exact⟨_,h3,Aq (S':=S) (o:=.lent s els) ⟨λ_ _ x=>x,λb hb i hi=>hat.2 b hb i hi,hat,rfl⟩ hr h2⟩}
theorem ZK {o:Oper}{K:PV->Prop}{Km:Act->World->Prop}{Q:Exit->Act->World->Prop}(h:Sim w0 S0 K0 N τ objs a w S β)(hs:sop objs o.op (ev τ) K) (hk:∀ pv w' S' v,K pv->Leads w S qR w' S'->Rep w' S' β v pv->Km (a.put o.dst v) w'):o.wp Pg a w Km Q:=by
 have he:∀ x,Rep w S β (a.eval x) (ev τ x):=λx=>h.eval x;have hrefl:Leads w S qR w S:=Leads.refl h.ld.bnd;have fin:∀ pv v,(execOp a.eval o).run Pg w=.ok (.value v) w->K pv->Rep w S β v pv->o.wp Pg a w Km Q:=λpv v h1 h2 h3=>kE h1 (hk pv w S v h2 hrefl h3);unfold sop at hs;split at hs;{rename_i x hop;exact fin _ _ (by simp[execOp,hop]) hs (he x)};{rename_i x hop;exact fin _ _ (by simp[execOp,hop]) hs (he x)}
 ·rename_i c x y hop;obtain⟨b,hb,ht,hf⟩:=Ye (he c) hs;cases b with
  |true=>exact fin _ _ (by simp[execOp,hop,hb,asBool]) (ht rfl) (he x)| false=>exact fin _ _ (by simp[execOp,hop,hb,asBool]) (hf rfl) (he y)
 {rename_i t parts hop;split at hs;{rename_i n fs z ht;split at hs;{rename_i cs hf;obtain⟨vs,h1,h2⟩:=Qe ht he hf;exact fin _ _ (by simp[execOp,hop,h1]) hs (.agg h2.1 h2.2)};grind};{rename_i len n ag z ht;split at hs;{rename_i cs hf;obtain⟨vs,h1,h2⟩:=VB ht he hf;exact fin _ _ (by simp[execOp,hop,h1]) hs (.agg h2.1 h2.2)};grind};grind}
 ·rename_i t len parts hop;split at hs
  ·rename_i n b z ht;split at hs
   ·rename_i els hf;cases hc:(nle (len*n) 1000&&nK els) with
    |false=>grind| true =>
     simp only[hc,cond_true] at hs;simp only[yS] at hc;obtain⟨w',S',v,h1,h2,h3⟩:=XN ht h.ld.bnd he hf (m7 hc.1) hc.2;exact kE (by simp[execOp,hop,h1]) (hk _ _ _ _ hs h2 h3)
   grind
  grind
 ·rename_i t x hop;split at hs;{rename_i cs off hx;have hr:=he x;rw[hx] at hr;obtain⟨b,o',vals,hS,hv,hf,hc,hrr⟩:=sM hr;obtain⟨pv,val,h1,h2,h3⟩:=aW (w:=w) (S:=S) (β:=β) hs vals hc (Qh hf hrr);exact fin pv val (by simp[execOp,hop,hv,h2]) h1 h3};{rename_i n off hx;split at hs;{rename_i cs ho;have hr:=he x;rw[hx] at hr;obtain⟨b,hβ,hv⟩:=jP hr;obtain⟨b',vs,T,hβ',hb,hsz,hrr⟩:=Qs h ho;rw[hβ] at hβ';cases hβ';obtain⟨pv,val,h1,h2,h3⟩:=aW (w:=w) (S:=S) (β:=β) (b:=b) (o:=0) hs (λj=>vs.getD j undef) (λj hj=>by rw[vF];grind [gZ]) hrr;obtain⟨pv',h1',h3'⟩:=DL h h1 h3;exact fin pv' val (by rw[vF] at h2;simp[execOp,hop,hv,h2]) h1' h3'};grind}
  ·rename_i n s i off hx;split at hs
   ·rename_i s' els ho;cases hss:nqb s s' with
    |false=>grind| true =>
     (simp only[hss,cond_true] at hs;have:=y8 hss;subst this;obtain⟨c,hcf,hcl,hck,hK⟩:=hs.h;have hr:=he x;rw[hx] at hr;obtain⟨b,hβ,hv⟩:=jE hr;have hlt:i ()<(els ()).length:=by grind);rcases h.obj.at_ n _ (xG ho) with⟨hn,he0⟩|⟨b',vs,T,hβ',hb,hsz,hwid,hrr⟩
     {grind}
     ·(rw[hβ] at hβ';cases hβ';have hg:(els ()).getD (i ()) []=xC c:=by grind);obtain⟨pv,val,h1,h2,h3⟩:=aW (w:=w) (S:=S) (β:=β) (b:=b) (o:=i ()*s) hK (λj=>vs.getD (i ()*s+j) undef)
       (λj hj=>gZ hb _ (by
        have:i ()*s+s<=(els ()).length*s:=by
         calc i ()*s+s=(i ()+1)*s:=by grind
          _<=_:=uU _ hlt
        omega))
       (λj hj=>by have:=(hrr (i ()) j hlt oM).1;rw[hg,j8] at this;exact .c (xU rfl hcf j) this)
      exact fin pv val (by simp[execOp,hop,hv,h2]) h1 h3
   ·rename_i sm rows hs0 ho;cases hss:(nqb s 1&&nqb off 0) with
    |false=>grind| true =>
     simp only[hss] at hs;simp only[yS] at hss;have e1:=y8 hss.1;have e2:=y8 hss.2;subst e1 e2;obtain⟨v0,k0,hk0,hki,hK⟩:=hs.h;have hr:=he x;rw[hx] at hr;obtain⟨b,hβ,hv⟩:=jE hr;rcases (show MatAt w S β n sm rows hs0 from h.obj.at_ n _ (xG ho)).pl with⟨_,_,hn⟩|⟨b',vs,T,hβ',hb,hsz,hhs,_⟩;{grind}
     ·rw[hβ] at hβ';cases hβ';obtain⟨hlt,hrp⟩:=hhs v0 k0 hk0;obtain⟨pv,val,h1,h2,h3⟩:=aW (w:=w) (S:=S) (β:=β) (b:=b) (o:=i ()) hK (λj=>vs.getD (i ()+j) undef)
       (λj hj=>gZ hb _ (by grind))
       (λj hj=>by grind)
      exact fin pv val (by rw[t9] at h2;simp[execOp,hop,hv,h2]) h1 h3
   ·rename_i cs ho;cases hss:(nqb s 1&&nqb off 0) with
    |false=>grind| true =>
     simp only[hss] at hs;simp only[yS] at hss;have e1:=y8 hss.1;have e2:=y8 hss.2;subst e1 e2;obtain⟨hi,hK⟩:=hs.h;have hr:=he x;rw[hx] at hr;obtain⟨b,hβ,hv⟩:=jE hr;obtain⟨b',vs,T,hβ',hb,hsz,hcs⟩:=h.obj.at_ n _ (xG ho);rw[hβ] at hβ';cases hβ';obtain⟨pv,val,h1,h2,h3⟩:=aW (w:=w) (S:=S) (β:=β) (b:=b) (o:=0) hK (λj=>vs.getD j undef) (λj hj=>by rw[vF];grind [gZ]) hcs;exact fin pv val (by simp[execOp,hop,hv] at h2 ⊢;simp[h2]) h1 h3
   grind
  grind
 {rename_i bop t x y yt hop;obtain⟨pv,val,h1,h2,h3⟩:=Gu (ox:=x) (oy:=y) (λc e=>by rw[e];rfl) (he x) (he y) hs;exact fin pv val (by simp only[execOp,hop,Sem.run_bind] at h2 ⊢;simp[h2]) h1 h3};{rename_i op t x hop;have hr:=he x;split at hs;{rename_i hx;rw[hx] at hr;exact fin _ (.bool false) (by simp[execOp,hop,Op.unary,i3 hr]) hs (.c rfl (.bool false))};{rename_i hx;rw[hx] at hr;exact fin _ (.bool true) (by simp[execOp,hop,Op.unary,ZT hr]) hs (.c rfl (.bool true))};{rename_i b hx;rw[hx] at hr;exact fin _ (.bool (!(b ()))) (by simp[execOp,hop,Op.unary,sN hr]) hs (mW _)};{rename_i b hx;rw[hx] at hr;exact fin _ (.bool (b ())) (by simp[execOp,hop,Op.unary,aV hr]) hs (pH _)};{rename_i k n hx;rw[hx] at hr;obtain⟨pv,h1,h2⟩:=lV (w:=w) (S:=S) (β:=β) hs;exact fin pv _ (by simp[execOp,hop,Op.unary,vX hr,Op.intArith]) h1 h2};grind}
 ·rename_i src dst x hop;cases hno:(ty src).isNo with
  |true=>grind| false =>
   simp only[hno,cond_false] at hs;split at hs;{rename_i k z k' n ht hx;have hr:=he x;rw[hx] at hr;obtain⟨d,hd⟩:=Tu hno;obtain⟨i,d',zv,_,h2,_,_,_,_,_,h8,_⟩:=Xs ht;have h8:=h8 k z rfl;subst h8;refine fin _ _ ?_ hs (sK k (λ_=>nx k (n ())));cases d <;> simp[execOp,hop,convert,run_underlying hd,run_underlying h2,vX hr,Conv.intToInt,nx]};{rename_i els ht hx;have hr:=he x;rw[hx] at hr;obtain⟨⟨e,h1,h2⟩,h3,ns,h4,h5⟩:=hs.h;obtain⟨a,ln,cap,hv,hb⟩:=Gs h4 (rY hr);exact fin _ (.string (Xi ns)) (by simp[execOp,hop,hv,run_convert_bytes_string w src dst e a ln cap h1 h2 h3,hb]) h5 (.c rfl (.str _))};grind
 {rename_i t x i hop;split at hs;{rename_i n fs z ht;split at hs;{rename_i off sz ag hi;have hr:=he x;split at hs;{rename_i m o' hx;rw[hx] at hr;obtain⟨b,hβ,hv⟩:=jP hr;exact fin _ _ (by simp[execOp,hop,hv,bP ht hi]) hs (.ptr hβ)};{rename_i m s j o' hx;rw[hx] at hr;obtain⟨b,hβ,hv⟩:=jE hr;exact fin _ (.pointer (some ⟨b,j ()*s+(o'+off),none⟩)) (by simp[execOp,hop,hv,bP ht hi,nP]) hs (.aptr hβ)};{rename_i cs o' hx;rw[hx] at hr;obtain⟨b,oo,vals,hS,hv,hf,hc,hrr⟩:=sM hr;exact fin _ (.pointer (some ⟨b,oo+(o'+off),none⟩)) (by simp[execOp,hop,hv,bP ht hi,nP]) hs (.dptr vals hS hf hc hrr)};grind};grind};grind}
 ·rename_i t x i hop;split at hs
  ·rename_i n fs z ht;split at hs
   ·rename_i off sz ag hi;obtain⟨inf,fields,zs,h1,h2,h3,h4,h5,h6,h7,h8⟩:=Xr ht;rw[h6,vH] at hi;obtain⟨f,hf,hfe⟩:=bX.1 hi;cases ag with
    |false =>
     simp only at hs;simp only[F3] at hfe;obtain⟨q1,q2,q3⟩:=hfe;split at hs
     ·rename_i cs hx;have hr:=he x;rw[hx] at hr;cases hle:(nqb sz 1&&nlt off cs.length) with
      |false=>grind| true =>
       (rw[hle] at hs;simp only[yS] at hle;have hs1:=y8 hle.1;have hlt:off<cs.length:=by simp_all);obtain⟨vs,hv,hl,hrr⟩:=kC hr
       (obtain⟨j,hj,hjs⟩:=qT (t:=f.type) (h8 f (z8 hf));obtain⟨fields',hu',hU⟩:=Tv ht;rw[h2] at hu';cases hu';obtain⟨d,hd⟩:=nO.1 (hU f (z8 hf));have hd':=pE hd w;rw[q3] at hd';have hfa:fields[i]?=some f:=by grind);have hlv:off<vs.size:=by omega
       (refine fin _ (vs.getD off undef) ?_ hs (hrr off oM);have hj1:j.size=1:=by omega);simp[execOp,hop,hv,Instr.field,run_underlying h2,hfa,asAgg,part,hd',uP hj,hj1,q1,hlv]
     grind
    |true =>
     simp only at hs;simp only[F3] at hfe;obtain⟨q1,q2,q3⟩:=hfe;split at hs
     ·rename_i cs hx;have hr:=he x;rw[hx] at hr;cases hle:nle (off+sz) cs.length with
      |false=>grind| true =>
       (simp only[hle] at hs;have hle:off+sz<=cs.length:=by simp_all);obtain⟨vs,hv,hl,hrr⟩:=kC hr
       obtain⟨j,hj,hjs⟩:=qT (t:=f.type) (h8 f (z8 hf));obtain⟨d,hd⟩:∃ d,Pg.underlying f.type=some d:=by unfold gJ at q3;grind
       (have hd':=pE hd w;rw[q3] at hd';have hfa:fields[i]?=some f:=by grind);refine fin _ (.agg (vs.extract off (off+sz))) ?_ hs (.agg ?_ ?_)
       {simp[execOp,hop,hv,Instr.field,run_underlying h2,hfa,asAgg,part,hd',uP hj,hjs,q1,q2]};{grind}
       ·(intro k hk;have hk':k<sz:=by grind);have:=hrr (off+k) oM
        (have e1:(vs.extract off (off+sz)).getD k undef=vs.getD (off+k) undef:=by simp only[F2];grind);grind
     grind
   grind
  grind
 ·rename_i t x i hop;split at hs;{rename_i n b z els k kv ht hx hi;obtain⟨inf,el,j,zv,h1,h2,h3,h4,h5,h6,h7,h8,h9,h10,h11,h12⟩:=u6 ht;have hr:=he x;have hri:=he i;rw[hx] at hr;rw[hi] at hri;obtain⟨hk0,c,hcf,hcl,hck,hK⟩:=hs.h;obtain⟨bb,oo,cap,hv,hlt,hrep⟩:=Pa (β:=β) (rY hr) h10 hcf hcl hck;refine fin _ _ ?_ hK hrep;have:=rM (w:=w) h4 h5 bb oo (els ()).length cap k (kv ()) hk0 oM;rw[h7] at this;simp[execOp,hop,hv,vX hri,this]}
  ·rename_i n b z m s o' len k kv ht hx hi;obtain⟨inf,el,j,zv,h1,h2,h3,h4,h5,h6,h7,h8,h9,h10,h11,h12⟩:=u6 ht;have hr:=he x;have hri:=he i;rw[hx] at hr;rw[hi] at hri;cases hss:nqb n s with
   |false=>grind| true =>
    simp only[hss,cond_true] at hs;have:=y8 hss;subst this;obtain⟨hrg,hK⟩:=hs;rcases qG hr with⟨_,_,hl0,_⟩|⟨bb,cap,vs,T,hβ,hlc,hb,hsz,hv⟩;{have:=hrg.lo;have:=hrg.hi;omega};{refine fin _ _ ?_ hK (.aptr hβ);have:=rM (w:=w) h4 h5 bb (o' ()*n) (len ()) cap k (kv ()) hrg.lo hrg.hi;rw[h7] at this;simp[execOp,hop,hv,vX hri,this,jR]}
  {rename_i len n ag z m o' k kv ht hx hi;obtain⟨inf,el,zs,h1,h2,h3,h4,h5,h6,h7,h8,h8',h8'',h9⟩:=iS ht;have hr:=he x;have hri:=he i;rw[hx] at hr;rw[hi] at hri;obtain⟨jj,hj1,hj2,hK⟩:=hs.h;obtain⟨b,hβ,hv⟩:=jP hr;obtain⟨j,hj,hjs⟩:=qT (t:=el) oM;refine fin _ _ ?_ hK (.ptr hβ);have:=oP (w:=w) h2 hj b o' k (kv ()) oM oM;rw[hjs,h6,hj1] at this;simp[execOp,hop,hv,vX hri,hj1,this]};grind
 ·rename_i t x i hop;split at hs
  ·rename_i len z cs k kv ht hx hi;obtain⟨inf,el,zs,h1,h2,h3,h4,h5,h6,h7,h8,h8',h8'',h9⟩:=iS ht;have hr:=he x;have hri:=he i;rw[hx] at hr;rw[hi] at hri;cases hll:nqb len cs.length with
   |false=>grind| true =>
    (simp only[hll,cond_true] at hs;have hll:=y8 hll;obtain⟨jj,hj1,hj2,hK⟩:=hs.h;obtain⟨vs,hv,hl,hrr⟩:=kC hr;obtain⟨j,hj,hjs⟩:=qT (t:=el) oM;have hs1:j.size=1:=by omega);obtain⟨d,hd⟩:=nO.1 h8''
    (have hlt:jj<vs.size:=by omega);refine fin _ (vs.getD jj undef) ?_ hK (hrr jj oM)
    have hd':=pE hd w;rw[h7] at hd';simp[execOp,hop,hv,vX hri,hj1,Instr.index,asIntOf,run_underlying h2,hj2,uP hj,hs1,part,hd',hlt]
  grind
 ·rename_i x i hop;have hr:=he x;split at hs
  ·rename_i vs hx;rw[hx] at hr;cases hlt:nlt i vs.length with
   |false=>grind| true =>
    (simp only[hlt,cond_true] at hs;have hlt:i<vs.length:=by simp_all);obtain⟨us,hv,hl,hrr⟩:=dH hr
    (have hlu:i<us.size:=by omega);exact fin _ (us.getD i undef) (by simp[execOp,hop,hv,Instr.extract,hlu]) hs (hrr i hlt)
  grind
 ·rename_i t x lo hi hop;have hr:=he x;split at hs;{rename_i n b z els ht hx;obtain⟨inf,el,j,zv,h1,h2,h3,h4,h5,h6,h7,h8,h9,h10,h11,h12⟩:=u6 ht;rw[hx] at hr;split at hs;{rename_i l hh hl hhh;obtain⟨hok,hw,hK⟩:=hs;have hl':=cY he hl;have hh':=cY he hhh;have:=hok.lo;have:=hok.mid;have:=hok.hi;obtain⟨aa,cap,hv,hcap,hrep⟩:=Hw (rY hr) hw.h (l:=(l ()).toNat) (h:=(hh ()).toNat) oM oM;refine fin _ _ ?_ hK (.c rfl hrep);have:=rX (w:=w) (ρ:=a.eval) (a:=aa) h4 h5 hcap hok.lo hok.mid hok.hi (hl'.imp (λh=>⟨h.1,by rw[h.2]⟩) id) (hh'.imp (λh=>⟨h.1,by rw[h.2]⟩) id);rw[h7] at this;simp only[execOp,hop,hv,Sem.run_bind,this,Result.andThen_ok,Sem.run_pure]};grind}
  ·rename_i n b z m s o' len ht hx;obtain⟨inf,el,j,zv,h1,h2,h3,h4,h5,h6,h7,h8,h9,h10,h11,h12⟩:=u6 ht;rw[hx] at hr;split at hs
   ·rename_i l hh hl hhh;cases hss:nqb n s with
    |false=>grind| true =>
     simp only[hss,cond_true] at hs;have:=y8 hss;subst this;obtain⟨hok,⟨hT⟩⟩:=hs;have hl':=cY he hl;have hh':=cY he hhh;have:=hok.lo;have:=hok.mid;have:=hok.hi;have key:∃ aa cc v,a.eval x=.slice aa (len ()) cc/\len ()<=cc/\(∀ aa',(l ()).toNat=cc->aa'=aa->Rep w S β (.slice aa' ((hh ()).toNat-(l ()).toNat) (cc-(l ()).toNat)) v)/\(((l ()).toNat≠cc)->Rep w S β (.slice (aa.map (·.add ((l ()).toNat*n))) ((hh ()).toNat-(l ()).toNat) (cc-(l ()).toNat)) v)/\K v:=by
      rcases hT with⟨hne,hK⟩|⟨heq,hK⟩
      ·rcases qG hr with⟨hβ,ho0,hl0,av,hv⟩|⟨bb,cap,vs,T,hβ,hlc,hb,hsz,hv⟩
       ·(have e1:(l ()).toNat=0:=by omega);have e2:(hh ()).toNat=0:=by omega
        refine⟨av,0,_,by rw[hv,hl0],by omega,λaa' _ e=>?_,λh=>absurd e1 h,hK⟩;rw[e1,e2];exact .osl0 hβ (by grind) (by grind)
       ·refine⟨some ⟨bb,o' ()*n,none⟩,cap,_,hv,hlc,λaa' hc e=>?_,λhc=>?_,hK⟩
        ·(have e1:(l ()).toNat=0:=by omega);subst e
         have:=Rep.osl (S:=S) (n:=m) (s:=n) (cap:=cap-(l ()).toNat) (o:=λ_=>o' ()+(l ()).toNat) (len:=λ_=>(hh ()).toNat-(l ()).toNat) hβ oM hb (by grind);simpa[e1] using this
        {have:=Rep.osl (S:=S) (n:=m) (s:=n) (cap:=cap-(l ()).toNat) (o:=λ_=>o' ()+(l ()).toNat) (len:=λ_=>(hh ()).toNat-(l ()).toNat) hβ oM hb (by grind);simpa only [Option.map_some,jK,<-jR] using this}
      ·(have e0:(hh ()).toNat-(l ()).toNat=0:=by omega);rw[e0]
       rcases qG hr with⟨hβ,ho0,hl0,av,hv⟩|⟨bb,cap,vs,T,hβ,hlc,hb,hsz,hv⟩;{exact⟨av,0,_,by rw[hv,hl0],by omega,λ_ _ _=>.c rfl (.sl0 _ _),λ_=>.c rfl (.sl0 _ _),hK⟩};{exact⟨some ⟨bb,o' ()*n,none⟩,cap,_,hv,hlc,λ_ _ _=>.c rfl (.sl0 _ _),λ_=>.c rfl (.sl0 _ _),hK⟩}
     obtain⟨aa,cc,v,hv,hlc,r1,r2,hK⟩:=key;have:=rX (w:=w) (ρ:=a.eval) (a:=aa) h4 h5 hlc hok.lo hok.mid hok.hi (hl'.imp (λh=>⟨h.1,by rw[h.2]⟩) id) (hh'.imp (λh=>⟨h.1,by rw[h.2]⟩) id);rw[h7] at this;by_cases hc:cc=(l ()).toNat;{rw[if_pos hc] at this;exact fin _ _ (by simp only[execOp,hop,hv,Sem.run_bind,this,Result.andThen_ok,Sem.run_pure]) hK (r1 _ hc.symm rfl)};{rw[if_neg hc] at this;exact fin _ _ (by simp only[execOp,hop,hv,Sem.run_bind,this,Result.andThen_ok,Sem.run_pure]) hK (r2 (λe=>hc e.symm))}
   grind
  ·rename_i n b z ht hx;obtain⟨inf,el,j,zv,h1,h2,h3,h4,h5,h6,h7,h8,h9,h10,h11,h12⟩:=u6 ht;rw[hx] at hr;have hv:=dI hr;split at hs
   ·(rename_i l hh hl hhh;obtain⟨hok,hK⟩:=hs;have hl':=cY he hl;have hh':=cY he hhh;have:=hok.lo;have:=hok.mid;have:=hok.hi;refine fin _ _ ?_ hK .nil;have:=rX (w:=w) (ρ:=a.eval) (a:=none) h4 h5 (yX 0) hok.lo hok.mid hok.hi (hl'.imp (λh=>⟨h.1,by rw[h.2]⟩) id) (hh'.imp (λh=>⟨h.1,by omega⟩) id);have e1:(l ()).toNat=0:=by omega);have e2:(hh ()).toNat=0:=by omega
    rw[e1,e2,if_pos rfl] at this;simp only[execOp,hop,hv,Sem.run_bind,this,Result.andThen_ok,Sem.run_pure]
   grind
  grind
 {rename_i x hop;have hr:=he x;split at hs;{rename_i n o' hx;rw[hx] at hr;obtain⟨b,hβ,hv⟩:=jP hr;exact fin _ _ (by simp[execOp,hop,hv]) hs (.ptr hβ)};{rename_i n s i o' hx;rw[hx] at hr;obtain⟨b,hβ,hv⟩:=jE hr;exact fin _ _ (by simp[execOp,hop,hv]) hs (.aptr hβ)};{rename_i c o' hx;rw[hx] at hr;obtain⟨b,oo,vals,hS,hv,hf,hc,hrr⟩:=sM hr;exact fin _ _ (by simp[execOp,hop,hv]) hs (.dptr vals hS hf hc hrr)};grind}
 ·(rename_i f first caps hop);split at hs
  ·(rename_i hfe;have hf0:first=#[]:=by grind);have hc:=Xc he caps.toList
   refine fin _ (.func (.func f) #[] (caps.toList.map a.eval).toArray) ?_ hs (.fn hc.1 hc.2);have:caps.map a.eval=(caps.toList.map a.eval).toArray:=Array.ext' (by simp);simp[execOp,hop,Instr.makeFunc,hf0,<-this]
  grind
 ·rename_i c hop;split at hs
  ·rename_i hcl;split at hs
   ·(rename_i x t hx ht;have hr:=he x;have ha:c.args=#[x]:=by grind);have hta:c.argTypes=#[t]:=by grind
    unfold M0 at hs;split at hs
    ·rename_i n b z hty;obtain⟨inf,el,j,zv,h1,h2,h3,h4,_⟩:=u6 hty;split at hs
     ·rename_i els hxe;rw[hxe] at hr;have:=rY hr;obtain⟨aa,cap,hv,_⟩:∃ aa cap,a.eval x=.slice aa (els ()).length cap/\True:=by
       rcases dK this with⟨e0,aa,cap,hv⟩|⟨bb,oo,cap,s,vals,_,_,_,_,_,_,_,hv⟩
       all_goals grind
      exact fin _ (.int .i64 ((els ()).length:Nat)) (by simp[execOp,hop,resolve,hcl,invoke,Go.builtin,ha,hta,hv,Builtin.len_,run_underlying h4,goInt]) hs (sK .i64 (λ_=>(((els ()).length:Nat):Int)))
     ·rename_i m s o' l hxe;rw[hxe] at hr;obtain⟨aa,cap,hv⟩:∃ aa cap,a.eval x=.slice aa (l ()) cap:=by
       rcases qG hr with⟨_,_,hl0,aa,hv⟩|⟨bb,cap,vs,T,hβ,hlc,hb,hsz,hv⟩
       all_goals grind
      exact fin _ (.int .i64 (l ():Nat)) (by simp[execOp,hop,resolve,hcl,invoke,Go.builtin,ha,hta,hv,Builtin.len_,run_underlying h4,goInt]) hs (sK .i64 (λ_=>((l ():Nat):Int)))
     {rename_i hxe;rw[hxe] at hr;have hv:=dI hr;exact fin _ (.int .i64 0) (by simp[execOp,hop,resolve,hcl,invoke,Go.builtin,ha,hta,hv,Builtin.len_,run_underlying h4,goInt]) hs (sK .i64 (λ_=>0))};{rename_i hxe;rw[hxe] at hr;obtain⟨aa,hv⟩:=oW hr;exact fin _ (.int .i64 0) (by simp[execOp,hop,resolve,hcl,invoke,Go.builtin,ha,hta,hv,Builtin.len_,run_underlying h4,goInt]) hs (sK .i64 (λ_=>0))};grind
    grind
   grind
  ·rename_i hcl;split at hs
   ·(rename_i x y hx;have ha:c.args=#[x,y]:=by grind);split at hs
    {rename_i k b hxe hye;have hr:=he x;have hr2:=he y;rw[hxe] at hr;rw[hye] at hr2;refine fin _ (.int .i64 (imax (k ()) (b ()))) ?_ hs (sK .i64 (λ_=>imax (k ()) (b ())));simp[execOp,hop,resolve,hcl,invoke,Go.builtin,ha,vX hr,vX hr2,Builtin.max_,Builtin.max2,imax]};grind
   grind
  ·rename_i hcl;split at hs
   ·(rename_i x y hx;have ha:c.args=#[x,y]:=by grind);split at hs
    {rename_i k b hxe hye;have hr:=he x;have hr2:=he y;rw[hxe] at hr;rw[hye] at hr2;refine fin _ (.int .i64 (imin (k ()) (b ()))) ?_ hs (sK .i64 (λ_=>imin (k ()) (b ())));simp[execOp,hop,resolve,hcl,invoke,Go.builtin,ha,vX hr,vX hr2,Builtin.min_,Builtin.min2,imin]};grind
   grind
  {rename_i f hcl;split at hs;{rename_i g caps hf;exact nM hop hcl h hf (hs.h.resolve_right λq=>by cases q.1) hk};grind};grind
 grind
end
end Go.Proofs.YtboocdbmnfjomaaGreat
