/- A part of the proof: PmM, PmN. -/
import Derived.Test.YtaeaffgjdcigoaaGreatG09
set_option linter.all false
namespace Go.Proofs.YtaeaffgjdcigoaaGreat
open Go
section
variable {w0:World} {S0:Nat->Nat->Prop} {K0:Nat->Prop} {N:Cx} {τ:Nat->PV} {objs:List (Nat×Obj')} {a:Act} {w w':World} {S S':Nat->Nat->Prop} {β β' βf:Bm} {h:Nat->Nat}
theorem oX {v pv}(r:Rep w S β v (rn0 h pv))(hl:lv0 pv=true):Rep w S (β.ren h) v pv:=by
 cases pv with
 |agg cs=>grind [lv0]| tup cs=>grind [lv0]| fn f cs=>grind [lv0]| ptr m off=>obtain⟨b,hβ,rfl⟩:=kF r;exact .ptr hβ
 |aptr m s i off=>obtain⟨b,hβ,rfl⟩:=jG r;exact .aptr hβ
 |osl m s i len =>
  rcases gL r with⟨hn,ho,hl,aa,rfl⟩|⟨b,cap,vs,T,hβ,hlc,hw,hsz,rfl⟩;{exact .osl0 hn ho hl};{exact .osl hβ hlc hw hsz}
 |nil=>rw[fR r];exact .nil| dptr cs o=>obtain⟨b,o',vals,hS,rfl,hf,hc,hr⟩:=sC r;exact .dptr vals hS hf hc hr
 |nilf=>cases r with|c hf h=>cases hf|nilf=>exact .nilf
 |nilp=>cases r with|c hf h=>cases hf|nilp=>exact .nilp
 |mpv n=>obtain⟨b,hβ,rfl⟩:=lC r;exact .mpv hβ
 |emp=>obtain⟨a,hv⟩:=oU r;subst hv;exact .emp a
 |_=>exact .c rfl (XP r rfl)
theorem Qu {v pv}(r:Rep w S β v (rn1 h pv))(hl:lv1 pv=true):Rep w S (β.ren h) v pv:=by
 cases pv with
 |agg cs =>
  obtain⟨vs,rfl,h1,h2⟩:=qR r;rw[zN] at h1;exact .agg h1 λj hj=>oX (by have:=h2 j (by grind [zN]);rwa [yJ _ rfl] at this) (wV (by grind [lv1]) j hj)
 |tup cs =>
  obtain⟨vs,rfl,h1,h2⟩:=fQ r;rw[zN] at h1;exact .tup h1 λj hj=>oX (by have:=h2 j (by grind [zN]);rwa [yJ _ rfl] at this) (wV (by grind [lv1]) j hj)
 |fn f cs =>
  obtain⟨vs,rfl,h1,h2⟩:=gP r;rw[zN] at h1;exact .fn h1 λj hj=>oX (by have:=h2 j (by grind [zN]);rwa [yJ _ rfl] at this) (wV (by grind [lv1]) j hj)
 |_=>exact oX r rfl
theorem Qt {v pv}(r:Rep w S β v (ren h pv))(hl:lv pv=true):Rep w S (β.ren h) v pv:=by
 cases pv with
 |agg cs =>
  obtain⟨vs,rfl,h1,h2⟩:=qR r;rw[zN] at h1;exact .agg h1 λj hj=>Qu (by have:=h2 j (by grind [zN]);rwa [yJ _ rfl] at this) (wV (by grind [lv]) j hj)
 |tup cs =>
  obtain⟨vs,rfl,h1,h2⟩:=fQ r;rw[zN] at h1;exact .tup h1 λj hj=>Qu (by have:=h2 j (by grind [zN]);rwa [yJ _ rfl] at this) (wV (by grind [lv]) j hj)
 |fn f cs =>
  obtain⟨vs,rfl,h1,h2⟩:=gP r;rw[zN] at h1;exact .fn h1 λj hj=>Qu (by have:=h2 j (by grind [zN]);rwa [yJ _ rfl] at this) (wV (by grind [lv]) j hj)
 |_=>exact oX r rfl
theorem nA {l:List Nat}(hl':∀ n,n∈l->βf (h n)=β' n){v pv}(r:Rep w S β' v pv)(hn:nm0 l pv=true):Rep w S βf v (rn0 h pv):=by
 cases pv with
 |agg cs=>grind [nm0]| tup cs=>grind [nm0]| fn f cs=>grind [nm0]| ptr m off=>obtain⟨b,hβ,rfl⟩:=kF r;exact .ptr (by grind [vE,nm0])
 |mpv m=>obtain⟨b,hβ,rfl⟩:=lC r;exact .mpv (by grind [vE,nm0])
 |aptr m s i off=>obtain⟨b,hβ,rfl⟩:=jG r;exact .aptr (by grind [vE,nm0])
 |osl m s i len =>
  have e:=hl' _ (vE (by simpa only [nm0] using hn));rcases gL r with⟨hn,ho,hl,aa,rfl⟩|⟨b,cap,vs,T,hβ,hlc,hw,hsz,rfl⟩;{exact .osl0 (by grind) ho hl};{exact .osl (by grind) hlc hw hsz}
 |nil=>rw[fR r];exact .nil| dptr cs o=>obtain⟨b,o',vals,hS,rfl,hf,hc,hr⟩:=sC r;exact .dptr vals hS hf hc hr
 |nilf=>cases r with|c hf h=>cases hf|nilf=>exact .nilf
 |nilp=>cases r with|c hf h=>cases hf|nilp=>exact .nilp
 |emp=>obtain⟨a,hv⟩:=oU r;subst hv;exact .emp a
 |_=>exact .c rfl (XP r rfl)
theorem XR {l:List Nat}(hl':∀ n,n∈l->βf (h n)=β' n){v pv}(r:Rep w S β' v pv)(hn:nm1 l pv=true):Rep w S βf v (rn1 h pv):=by
 cases pv with
 |agg cs =>
  obtain⟨vs,rfl,h1,h2⟩:=qR r;exact .agg (by grind [zN]) λj hj=>by rw[zN] at hj;rw[yJ _ rfl];grind [nA,wV,nm1]
 |tup cs =>
  obtain⟨vs,rfl,h1,h2⟩:=fQ r;exact .tup (by grind [zN]) λj hj=>by rw[zN] at hj;rw[yJ _ rfl];grind [nA,wV,nm1]
 |fn f cs =>
  obtain⟨vs,rfl,h1,h2⟩:=gP r;exact .fn (by grind [zN]) λj hj=>by rw[zN] at hj;rw[yJ _ rfl];grind [nA,wV,nm1]
 |_=>exact nA hl' r hn
theorem Qs {l:List Nat}(hl':∀ n,n∈l->βf (h n)=β' n){v pv}(r:Rep w S β' v pv)(hn:nmIn l pv=true):Rep w S βf v (ren h pv):=by
 cases pv with
 |agg cs =>
  obtain⟨vs,rfl,h1,h2⟩:=qR r;exact .agg (by grind [zN]) λj hj=>by rw[zN] at hj;rw[yJ _ rfl];grind [XR,wV,nmIn]
 |tup cs =>
  obtain⟨vs,rfl,h1,h2⟩:=fQ r;exact .tup (by grind [zN]) λj hj=>by rw[zN] at hj;rw[yJ _ rfl];grind [XR,wV,nmIn]
 |fn f cs =>
  obtain⟨vs,rfl,h1,h2⟩:=gP r;exact .fn (by grind [zN]) λj hj=>by rw[zN] at hj;rw[yJ _ rfl];grind [XR,wV,nmIn]
 |_=>exact nA hl' r hn
theorem V7 (n:Nat):∀ {cs:List PV},yS iY cs=true->wC n cs=true
 |[],_=>rfl| c::cs,h=>by simp only[yS,yK] at h;simp only[wC,yS,yK];exact⟨by cases c <;> simp_all [iY,qZ,wO,rf0],V7 n h.2⟩
theorem Yt {n:Nat}(hn:n<1000000):∀ {l:List (Nat×Obj')},(∀ m o,(m,o)∈l->m≠n/\cS n o)->xI n l=true
 |[],_=>by grind [xI,nlt]| (m,o1)::r,h=>by
  (have h1:=h m _ xV;have h2:=Yt hn (l:=r) λm o hm=>h m o (xQ _ hm);have e:(!(nqb m n))=true:=by grind [H4]);cases o1 with
  |box cs=>simp only[xI,yK];exact⟨⟨e,h1.2⟩,h2⟩| arr s els=>simp only[xI,yK];grind| log s els=>simp only[xI,yK];grind| lent s els=>simp only[xI,yK];grind| mp t k=>simp only[xI,yK];grind| mat s rows hs=>simp only[xI,yK];exact⟨⟨e,h1.2⟩,h2⟩
theorem XD:∀ (l:List Nat) {v pv},Rep w S β v pv->Rep w S β v (cX l pv)
 |[],v,pv,h=>h| n::r,v,pv,h=>XD r (YW h)
theorem oH:∀ (l:List Nat),cX l .any=.any
 |[]=>rfl| n::r=>oH r
theorem Wh:∀ {l:List Nat} {objs:List (Nat×Obj')} {m:Nat} {o:Obj'},(m,o)∈gC l objs->(m,o)∈objs/\m∉l
 |[],objs,m,o,h=>⟨h,by simp⟩| n::r,objs,m,o,h=>by obtain⟨h1,h2⟩:=Wh (l:=r) h;grind [vK]
theorem WV:∀ (l:List Nat) (objs:List (Nat×Obj')),((gC l objs).map Prod.fst).Sublist (objs.map Prod.fst)
 |[],objs=>List.Sublist.refl _| n::r,objs=>(WV r _).trans (nR _ _)
theorem Ur:∀ {l:List Nat} {objs:List (Nat×Obj')} {m:Nat} {o:Obj'},(m,o)∈objs->m∉l->(m,o)∈gC l objs
 |[],objs,m,o,h,_=>h| n::r,objs,m,o,h,hn=>by simp only[yI,not_or] at hn;exact Ur (l:=r) (lL h hn.1) hn.2
theorem kG:∀ {l:List (Nat×Obj')} {m:Nat} {x:Obj'},(m,x)∈z9 h l↔∃ n o,(n,o)∈l/\m=h n/\x=x9 (ren h) o
 |[],m,x=>by simp[z9]| (n,y)::r,m,x=>by simp only[z9,yI,kG (l:=r)];constructor;{rintro (e|⟨k,o,hk,e1,e2⟩);{cases e;exact⟨n,y,.inl rfl,rfl,rfl⟩};grind};grind
theorem iO:∀ (l k:List (Nat×Obj')),z9 h (l++k)=z9 h l++z9 h k
 |[],k=>rfl| (n,x)::r,k=>by simp[z9,iO r k]
theorem dV:∀ (l:List (Nat×Obj')),(z9 h l).map Prod.fst=(l.map Prod.fst).map h
 |[]=>rfl| (n,x)::r=>by simp[z9,dV r]
theorem nO:∀ {l objs:List (Nat×Obj')},uU h objs l->∀ {n o},(n,o)∈l->(h n,x9 (ren h) o)∈objs/\bA o=true
 |(m,x)::r,objs,H,n,o,hm=>by simp only[yI] at hm;rcases hm with hm|hm;{cases hm;exact⟨xL H.1.1,H.1.2⟩};{exact nO H.2 hm}
theorem XV {L:List Nat}:∀ {l:List (Nat×Obj')},bM L l=true->∀ {n o},(n,o)∈l->bA o=true/\H2 L o=true
 |(m,x)::r,H,n,o,hm=>by simp only[bM,yK] at H;simp only[yI] at hm;rcases hm with hm|hm;{grind};{exact XV H.2 hm}
theorem Vg {p:PV->Bool}:∀ {hs:List (PV×(Unit->Nat))},Sa p hs=true->∀ {v k},(v,k)∈hs->p v=true
 |(u,j)::r,H,v,k,hm=>by simp only[Sa,yK] at H;rcases yI.1 hm with hm|hm;{grind};{exact Vg H.2 hm}
theorem Fh {n:Nat}{o:Obj'}(ho:bA o=true)(hat:ObjAt w S β (h n) (x9 (ren h) o)):ObjAt w S (β.ren h) n o:=by
 cases o with
 |box cs =>
  obtain⟨b,vs,T,e1,e2,e3,e4⟩:=hat;rw[zN] at e3;exact⟨b,vs,T,e1,e2,e3,λj hj=>Qt (by have:=e4 j (by grind [zN]);rwa [yJ _ rfl] at this) (wV (by grind [bA]) j hj)⟩
 |arr s els=>exact hat| log s els=>cases ho
 |lent s els=>cases ho
 |mp t k=>exact hat| mat s rows hs =>
  obtain⟨hp,h5,h6⟩:=hat;have hr:=jM (ren h) (.mat s rows hs);refine⟨?_,λi j b hi hj=>h5 i j b ((hr i).2 hi) ((hr j).2 hj),λi b hi=>h6 i b ((hr i).2 hi)⟩;rcases hp with⟨e1,e2,e3⟩|⟨b,vs,T,h1,h2,h3,h4,h7⟩
  ·refine .inl ⟨e1,e2,?_⟩;cases hs with
   |nil=>rfl| cons x r=>cases e3
  {exact .inr ⟨b,vs,T,h1,h2,h3,λv k hk=>⟨(h4 _ k (lK (ren h) hk)).1,Qt (h4 _ k (lK (ren h) hk)).2 (Vg (by grind [bA]) hk)⟩,λi hi=>h7 i ((hr i).2 hi)⟩}
theorem By {L:List Nat}{n:Nat}{o:Obj'}(hL:∀ k,k∈L->βf (h k)=β' k)(hn:H2 L o=true)(h0:βf (h n)=β' n)(h1:∀ i,βf.r (h n) i=β'.r n i)(hpub:∀ i,¬j8 o i)(hat:ObjAt w S β' n o):ObjAt w S βf (h n) (x9 (ren h) o):=by
 cases o with
 |box cs =>
  obtain⟨b,vs,T,e1,e2,e3,e4⟩:=hat;exact⟨b,vs,T,by grind,e2,by grind [zN],λj hj=>by rw[zN] at hj;rw[yJ _ rfl];grind [Qs,wV,H2]⟩
 |arr s els =>
  rcases hat with⟨e0,e⟩|⟨b,vs,T,e1,rest⟩;{exact .inl ⟨by grind,e⟩};{exact .inr ⟨b,vs,T,by grind,rest⟩}
 |log s els =>
  rcases hat with⟨e0,e⟩|⟨b,vs,T,e1,rest⟩;{exact .inl ⟨by grind,e⟩};{exact .inr ⟨b,vs,T,by grind,rest⟩}
 |lent s els =>
  obtain⟨hat,hst⟩:=hat;refine⟨?_,λb hb i hi=>hst b (by grind) i hi⟩;rcases hat with⟨e0,e⟩|⟨b,vs,T,e1,rest⟩;{exact .inl ⟨by grind,e⟩};{exact .inr ⟨b,vs,T,by grind,rest⟩}
 |mp t k=>exact MapAt.to hat h0 λ_ _=>rfl| mat s rows hs =>
  obtain⟨hp,h5,h6⟩:=hat;have hr:=jM (ren h) (.mat s rows hs);refine⟨?_,λi j b hi hj e1 e2=>h5 i j b ((hr i).1 hi) ((hr j).1 hj) (by grind) (by grind),λi b hi e1=>by rw[h0];exact h6 i b ((hr i).1 hi) (by grind)⟩;rcases hp with⟨e1,e2,e3⟩|⟨b,vs,T,g1,g2,g3,g4,g7⟩;{subst e3;exact .inl ⟨by grind,e2,rfl⟩};{refine .inr ⟨b,vs,T,by grind,g2,g3,λv k hk=>?_,λi hi=>by rw[h1];exact g7 i ((hr i).1 hi)⟩;obtain⟨v',hk',rfl⟩:=Zd _ hk;grind [Qs,Vg,H2]}
theorem Bw {o:Obj'}(hc:bA o=true){i:Nat}:¬j8 o i:=by
 cases o with
 |box cs=>exact id| arr s els=>exact id| log s els=>cases hc
 |lent s els=>cases hc
 |mp t k=>exact id| mat s rows hs=>exact id
theorem rH {n:Nat}{o:Obj'}{b:Nat}:Own (β.ren h) n o b↔Own β (h n) (x9 (ren h) o) b:=by constructor;{rintro (e|⟨i,h1,h2⟩);{exact .inl e};{exact .inr ⟨i,(jM _ o i).2 h1,h2⟩}};{rintro (e|⟨i,h1,h2⟩);{exact .inl e};{exact .inr ⟨i,(jM _ o i).1 h1,h2⟩}}
theorem YD {ps:PS}:∀ {l:List (Nat×Obj')},aI h ps l=true->∀ {n o},(n,o)∈l->yV (h n) ps=true
 |(m,x)::r,H,n,o,hm=>by simp only[aI,yK] at H;simp only[yI] at hm;rcases hm with hm|hm;{grind};{exact YD H.2 hm}
theorem X7:∀ {l:List (Nat×Obj')} {n:Nat},n∈sO l->∃ o,(n,o)∈l
 |(m,x)::r,n,hm=>by simp only[sO,yI] at hm;rcases hm with hm|hm;{grind};{obtain⟨o,ho⟩:=X7 hm;grind}
theorem FE:∀ {l:List Nat},(l.map h).Nodup->∀ {n m},n∈l->m∈l->h n=h m->n=m
 |x::r,hnd,n,m,hn,hm,e=>by simp only[jB,mI] at hnd;simp only[yI] at hn hm;rcases hn with rfl|hn;{grind};{rcases hm with rfl|hm;{grind};{exact FE hnd.2 hn hm e}}
theorem lF {l:List (Nat×Obj')}(hnd:((z9 h l).map Prod.fst).Nodup){n m:Nat}{o o':Obj'}(hn:(n,o)∈l)(hm:(m,o')∈l)(e:h n=h m):n=m:=by rw[dV] at hnd;have h1:n∈l.map Prod.fst:=xA.2 ⟨_,hn,rfl⟩;have h2:m∈l.map Prod.fst:=xA.2 ⟨_,hm,rfl⟩;grind [FE]
section
variable {L:List Nat}
theorem Rep.free0 (hL:∀ m,m∉L->βf m=β m){v pv}(r:Rep w S β v pv)(hf:∀ d,d∈L->rf0 d pv=true):Rep w S βf v pv:=by
 have key:∀ m,(∀ d,d∈L->(!(nqb m d))=true)->βf m=β m:=λm hm=>hL m λhin=>by have:=hm m hin;simp_all
 cases r with
 |c hc h=>exact .c hc h| nil=>exact .nil| agg hl h =>
  cases L with
  |nil=>exact (by have e:∀ m,βf m=β m:=λm=>hL m (by simp);exact .agg hl λj hj=>(h j hj).place e)| cons d r=>grind [List.mem_cons_self,rf0]
 |tup hl h =>
  cases L with
  |nil=>exact (by have e:∀ m,βf m=β m:=λm=>hL m (by simp);exact .tup hl λj hj=>(h j hj).place e)| cons d r=>grind [List.mem_cons_self,rf0]
 |fn hl h =>
  cases L with
  |nil=>exact (by have e:∀ m,βf m=β m:=λm=>hL m (by simp);exact .fn hl λj hj=>(h j hj).place e)| cons d r=>grind [List.mem_cons_self,rf0]
 |ptr hβ=>exact .ptr (by grind [rf0])| aptr hβ=>exact .aptr (by grind [rf0])| dptr vals hSb hf' hc hr=>exact .dptr vals hSb hf' hc hr| osl hβ hlc hb hsz=>exact .osl (by grind [rf0]) hlc hb hsz| nilf=>exact .nilf| nilp=>exact .nilp| mpv hβ=>exact .mpv (by grind [rf0])| emp a=>exact .emp a| osl0 hβ ho hl=>exact .osl0 (by grind [rf0]) ho hl
theorem cE {p:Nat->PV->Bool}(hp:∀ d,p d .any=true){cs:List PV}(hf:∀ d,d∈L->yS (p d) cs=true)(j:Nat):∀ d,d∈L->p d (cs.getD j .any)=true:=λd hd=>xR (hp d) (hf d hd) j
theorem Rep.free1 (hL:∀ m,m∉L->βf m=β m){v pv}(r:Rep w S β v pv)(hf:∀ d,d∈L->rf1 d pv=true):Rep w S βf v pv:=by
 cases r with
 |agg hl h=>exact .agg hl λj hj=>(h j hj).free0 hL (cE (λ_=>rfl) (λd hd=>by grind [rf1]) j)| tup hl h=>exact .tup hl λj hj=>(h j hj).free0 hL (cE (λ_=>rfl) (λd hd=>by grind [rf1]) j)| fn hl h=>exact .fn hl λj hj=>(h j hj).free0 hL (cE (λ_=>rfl) (λd hd=>by grind [rf1]) j)| c hc h=>exact .c hc h| nil=>exact .nil| ptr hβ=>exact (Rep.ptr hβ).free0 hL hf| aptr hβ=>exact (Rep.aptr hβ).free0 hL hf| dptr vals hSb hf' hc hr=>exact .dptr vals hSb hf' hc hr| osl hβ hlc hb hsz=>exact (Rep.osl hβ hlc hb hsz).free0 hL hf| nilf=>exact .nilf| nilp=>exact .nilp| mpv hβ=>exact (Rep.mpv hβ).free0 hL hf| emp a=>exact .emp a| osl0 hβ ho hl=>exact (Rep.osl0 hβ ho hl).free0 hL hf
theorem Rep.free (hL:∀ m,m∉L->βf m=β m){v pv}(r:Rep w S β v pv)(hf:∀ d,d∈L->wO d pv=true):Rep w S βf v pv:=by
 cases r with
 |agg hl h=>exact .agg hl λj hj=>(h j hj).free1 hL (cE (λ_=>rfl) (λd hd=>by grind [wO]) j)| tup hl h=>exact .tup hl λj hj=>(h j hj).free1 hL (cE (λ_=>rfl) (λd hd=>by grind [wO]) j)| fn hl h=>exact .fn hl λj hj=>(h j hj).free1 hL (cE (λ_=>rfl) (λd hd=>by grind [wO]) j)| c hc h=>exact .c hc h| nil=>exact .nil| ptr hβ=>exact (Rep.ptr hβ).free0 hL hf| aptr hβ=>exact (Rep.aptr hβ).free0 hL hf| dptr vals hSb hf' hc hr=>exact .dptr vals hSb hf' hc hr| osl hβ hlc hb hsz=>exact (Rep.osl hβ hlc hb hsz).free0 hL hf| nilf=>exact .nilf| nilp=>exact .nilp| mpv hβ=>exact (Rep.mpv hβ).free0 hL hf| emp a=>exact .emp a| osl0 hβ ho hl=>exact (Rep.osl0 hβ ho hl).free0 hL hf
theorem ObjAt.free {m:Nat}{o:Obj'}(hL:∀ m,m∉L->βf m=β m)(hm:m∉L)(hr:∀ i,βf.r m i=β.r m i)(hf:∀ d,d∈L->cS d o)(hat:ObjAt w S β m o):ObjAt w S βf m o:=by
 have e:=hL m hm;have hrow:∀ {s els},RowAt w S β m s els->RowAt w S βf m s els:=λh=>by rcases h with⟨e0,e1⟩|⟨b,vs,T,e1,rest⟩;{exact .inl ⟨by grind,e1⟩};{exact .inr ⟨b,vs,T,by grind,rest⟩}
 cases o with
 |box cs =>
  obtain⟨b,vs,T,e1,e2,e3,e4⟩:=hat;exact⟨b,vs,T,by grind,e2,e3,λj hj=>(e4 j hj).free hL (cE (p:=wO) (λ_=>rfl) (λd hd=>hf d hd) j)⟩
 |arr s els=>exact hrow hat| log s els=>exact hrow hat| lent s els=>exact⟨hrow hat.1,λb hb i hi=>hat.2 b (by grind) i hi⟩| mp t k=>exact MapAt.to hat e λ_ _=>rfl| mat s rows hs =>
  obtain⟨hp,h5,h6⟩:=hat;refine⟨?_,λi j b hi hj e1 e2=>h5 i j b hi hj (by grind) (by grind),λi b hi e1=>by grind⟩;rcases hp with⟨e1,e2,e3⟩|⟨b,vs,T,g1,g2,g3,g4,g7⟩;{grind};{exact .inr ⟨b,vs,T,by grind,g2,g3,λv k hk=>⟨(g4 v k hk).1,(g4 v k hk).2.free hL λd hd=>tG (hf d hd) hk⟩,λi hi=>by grind⟩}
end
theorem Uq:∀ {k l:List (Nat×Obj')} {m:Nat} {o:Obj'},(l.map Prod.fst).Nodup->(∀ n x,(n,x)∈k->h n∈l.map Prod.fst)->((z9 h k).map Prod.fst).Nodup->(m,o)∈rE h l k ->(∃ n o',(n,o')∈k/\m=h n/\o=x9 (ren h) o')\/((m,o)∈l/\m∉(z9 h k).map Prod.fst)
 |[],l,m,o,hnd,hin,hk,hm=>.inr ⟨hm,by simp[z9]⟩| (n,x)::r,l,m,o,hnd,hin,hk,hm=>by have hn:=hin n x xV;simp only[z9,jB,mI] at hk;simp only[rE] at hm;have hnm:(setO l (h n) (x9 (ren h) x)).map Prod.fst=l.map Prod.fst:=qK hn;rcases Uq (k:=r) (by grind) (λk y hk=>by grind) hk.2 hm with⟨k,y,h1,h2⟩|⟨h1,h2⟩;{grind};{rcases xW hnd hn h1 with⟨rfl,rfl⟩|⟨h3,h4⟩;{grind};{exact .inr ⟨h4,by simp only[z9,jB,yI,not_or];grind⟩}}
theorem Yx:∀ {k l:List (Nat×Obj')},(∀ n x,(n,x)∈k->h n∈l.map Prod.fst)->(rE h l k).map Prod.fst=l.map Prod.fst
 |[],l,_=>rfl| (n,x)::r,l,hin=>by have hn:=hin n x xV;have hnm:(setO l (h n) (x9 (ren h) x)).map Prod.fst=l.map Prod.fst:=qK hn;simp only[rE];rw[Yx (k:=r) (λk y hk=>by grind),hnm]
theorem Y4 {l k:List (Nat×Obj')}(e:l.map Prod.fst=k.map Prod.fst){n:Nat}{o:Obj'}(hm:(n,o)∈l):∃ o',(n,o')∈k:=by
 have h1:n∈k.map Prod.fst:=by grind
 grind
theorem Um {f:PV->PV}{o:Obj'}(hc:bA o=true){i:Nat}:¬j8 (x9 f o) i:=by
 cases o with
 |box cs=>exact id| arr s els=>exact id| log s els=>cases hc
 |lent s els=>cases hc
 |mp t k=>exact id| mat s rows hs=>exact id
theorem ObjAt.map {f:PV->PV}{m:Nat}{o:Obj'}(hf:f .any=.any)(hr:∀ v x,Rep w S β v x->Rep w S β v (f x))(h:ObjAt w S β m o):ObjAt w S β m (x9 f o):=by
 cases o with
 |box cs =>
  obtain⟨b,vs,T,e1,e2,e3,e4⟩:=h;exact⟨b,vs,T,e1,e2,by grind [zN],λj hj=>by grind [zN,yJ]⟩
 |arr s els=>exact h| log s els=>exact h| lent s els=>exact h| mp t k=>exact h| mat s rows hs=>exact MatAt.map h (λ_ _ h=>h) λv x k _ hv=>hr v x hv
theorem oY {f:PV->PV}{n:Nat}(hf:∀ v,wO n (f v)=true):∀ hs:List (PV×(Unit->Nat)),sG n (sP f hs)=true
 |[]=>rfl| (v,k)::r=>by simp only[sP,sG,hf,oY hf r];rfl
theorem Xw {c:PV}(hc:iY c=true):ren h c=c/\lv c=true/\∀ l,nmIn l c=true:=by cases c <;> simp[iY,qZ] at hc <;> exact⟨rfl,rfl,λ_=>rfl⟩
theorem W0 {o:Obj'}(hc:tW o=true):x9 (ren h) o=o:=by
 cases o with
 |box cs =>
  show Obj'.box (vG (ren h) cs)=_;have:∀ l:List PV,yS iY l=true->vG (ren h) l=l:=by
   intro l;induction l with
   |nil=>intro _;rfl
   |cons c r ih=>intro hl;simp only[yS,yK] at hl;grind [vG,Xw]
  rw[this cs hc]
 |mat s rows hs =>
  cases hs with
  |nil=>rfl| cons x r=>cases hc
 |_=>rfl
theorem YH {o:Obj'}(hc:tW o=true):bA o=true:=by
 cases o with
 |box cs =>
  have:∀ l:List PV,yS iY l=true->yS lv l=true:=by
   intro l;induction l with
   |nil=>intro _;rfl
   |cons c r ih=>intro hl;simp only[yS,yK] at hl ⊢;exact⟨(Xw (h:=id) hl.1).2.1,ih hl.2⟩
  exact this cs hc
 |arr s els=>rfl| log s els=>cases hc
 |lent s els=>cases hc
 |mp t k=>rfl| mat s rows hs =>
  cases hs with
  |nil=>rfl| cons x r=>cases hc
theorem D8 {o:Obj'}{l:List Nat}(hc:tW o=true):H2 l o=true:=by
 cases o with
 |box cs =>
  have:∀ k:List PV,yS iY k=true->yS (nmIn l) k=true:=by
   intro k;induction k with
   |nil=>intro _;rfl
   |cons c r ih=>intro hl;simp only[yS,yK] at hl ⊢;exact⟨(Xw (h:=id) hl.1).2.2 l,ih hl.2⟩
  exact this cs hc
 |mat s rows hs =>
  cases hs with
  |nil=>rfl| cons x r=>cases hc
 |_=>rfl
theorem MH {l:List (Nat×Obj')}(hinj:∀ n o m o',(n,o)∈l->(m,o')∈l->h n=h m->n=m)(β β':Bm):∃ βf:Bm,(∀ n o,(n,o)∈l->βf (h n)=β' n)/\(∀ n o i,(n,o)∈l->βf.r (h n) i=β'.r n i) /\ (∀ m,(∀ n o,(n,o)∈l->h n≠m)->βf m=β m)/\∀ m i,(∀ n o,(n,o)∈l->h n≠m)->βf.r m i=β.r m i:=by
 classical
 refine⟨⟨λm=>if e:∃ n o,(n,o)∈l/\h n=m then β' (Classical.choose e) else β m,λm i=>if e:∃ n o,(n,o)∈l/\h n=m then β'.r (Classical.choose e) i else β.r m i⟩,λn o hm=>?_,λn o i hm=>?_,λm hno=>?_,λm i hno=>?_⟩;{have e:∃ k o,(k,o)∈l/\h k=h n:=⟨n,o,hm,rfl⟩;grind};{have e:∃ k o,(k,o)∈l/\h k=h n:=⟨n,o,hm,rfl⟩;grind}
 all_goals grind
theorem W7 {o:Oper}{c:Call}{f:Operand}(hop:o.op=.call c)(hcl:c.callee=.value f){Km:Act->World->Prop}{Q:Exit->Act->World->Prop}(hs:Sim w0 S0 K0 N τ objs a w S β) {g:FuncId} {caps:List PV} (hf:ev τ f=.fn g caps) {cargs:List PV} {kept eaten:List (Nat×Obj')} {r:PV} {kept' made:List (Nat×Obj')} (hle:LeL (evs (ev τ) c.args.toList++caps) (oW h cargs)) (hso:Sound g cargs kept eaten r kept' made) (hobj:uU h objs (kept++eaten)) (hnd1:ndO (z9 h (kept++eaten))=true) (hnd2:ndO (kept++eaten)=true) (hclo:bM (sO (kept'++made)) (kept'++made)=true) (hnd3:ndO (z9 h made)=true) (hfr:∀ {n o},(n,o)∈made->(∀ t,wO (h n) (cX ((z9 h eaten).map Prod.fst) (τ t))=true)/\xI (h n) (xO (cX ((z9 h eaten).map Prod.fst)) (gC ((z9 h eaten).map Prod.fst) objs))=true) (hlv:yS lv cargs=true) (hlr:lv r=true) (hnm:nmIn (sO (kept'++made)) r=true) (hk:∀ w' S' β' v,Sim w0 S0 K0 N (λt=>cX ((z9 h eaten).map Prod.fst) (τ t)) (rE h (xO (cX ((z9 h eaten).map Prod.fst)) (gC ((z9 h eaten).map Prod.fst) objs)) kept'++z9 h made) a w' S' β'->Rep w' S' β' v (ren h r)->Km (a.put o.dst v) w'):o.wp Pg a w Km Q:=by
 have hfv:=hs.eval f;rw[hf] at hfv;obtain⟨vs,hv,hl,hr⟩:=gP hfv;have hargs:=((Y6 (λx=>hs.eval x) c.args.toList).append ⟨hl,hr⟩).le hle;have hnodup1:=gZ hnd1;have hmemo:∀ {n x},(n,x)∈kept++eaten->(h n,x9 (ren h) x)∈objs/\bA x=true:=λhm=>nO hobj hm;have hblk:∀ b,Blk (β.ren h) (kept++eaten) b->(∀ i,¬S b i)/\b<w.heap.size/\(w0.heap.size<=b\/K0 b):=by rintro b ⟨n,x,hm,hβ⟩;obtain⟨h1,h2⟩:=hmemo hm;have hβ':=rH.1 hβ;exact⟨λi hS=>Um h2 ((hs.obj.un _ _ b h1 hβ').1 i hS),(hs.obj.un _ _ b h1 hβ').2,hs.own _ _ b h1 hβ'⟩
 have hobjs:ObjsAt w S (β.ren h) (kept++eaten):=⟨gZ hnd2,λn x hm=>Fh (hmemo hm).2 (hs.obj.at_ _ _ (hmemo hm).1),λn x b hm hβ=>⟨λi hS=>absurd hS ((hblk b ⟨n,x,hm,hβ⟩).1 i),(hblk b ⟨n,x,hm,hβ⟩).2.1⟩,
  λn x m y b hm hm' hβ hβ'=>lF hnodup1 hm hm' (hs.obj.inj _ _ _ _ b (hmemo hm).1 (hmemo hm').1 (rH.1 hβ) (rH.1 hβ'))⟩
 have hlen:(oW h cargs).length=cargs.length:=zN _ _;unfold Oper.wp;rw[mZ hop hcl hv hso.isf,Oper.upon_enter];refine (hso.go w S (β.ren h) _ hs.ld.bnd hobjs (by rw[hargs.1,hlen]) (λj hj=>Qt (by have:=hargs.2 j oM;rwa [oW,yJ _ rfl] at this) (wV hlv j hj))).mono ?_;rintro e w' ⟨v,S',β',rfl,l,hrep,ho',hnk,hβk,hmd⟩;show Km (a.put o.dst v) w';have hevo:Evo S w w':=⟨λb i hS=>cO (l.same b (hs.ld.bnd b i hS) λhb=>(hblk b hb).1 i hS) i,l.shape⟩;have hsub:∀ b i,S b i->S' b i:=l.subs hs.ld.bnd;have hld:Leads w0 S0 K0 w' S':=by refine⟨vR hs.ld.size l.size,l.os.trans hs.ld.os,l.tape.trans hs.ld.tape,l.output.trans hs.ld.output,λb hb hk=>?_,λb us U hb=>?_,l.bnd,λb i hb hS=>hsub b i (hs.ld.sub b i hb hS),λb i hb hk hS=>?_⟩;{have hb':=uR hb hs.ld.size;rw[l.same b hb' λhx=>by grind];exact hs.ld.same b hb hk};{obtain⟨us',e1,e2⟩:=hs.ld.shape b us U hb;obtain⟨us'',e3,e4⟩:=l.shape b us' U e1;grind};{have hb':=uR hb hs.ld.size;exact hs.ld.old b i hb hk (l.old b i hb' (λhx=>by grind) hS)}
 
 have hmid:∀ {m x},(m,x)∈(xO (cX ((z9 h eaten).map Prod.fst)) (gC ((z9 h eaten).map Prod.fst) objs))->(∃ x',(m,x')∈objs/\x=x9 (cX ((z9 h eaten).map Prod.fst)) x')/\m∉(z9 h eaten).map Prod.fst:=by intro m x hm;obtain⟨x',h1,h2⟩:=vJ _ hm;obtain⟨h3,h4⟩:=Wh h1;grind
 have hkin:∀ n x,(n,x)∈kept->h n∈((xO (cX ((z9 h eaten).map Prod.fst)) (gC ((z9 h eaten).map Prod.fst) objs))).map Prod.fst:=by
  (intro n x hm;have h1:=(hmemo (UY eaten hm)).1;have h2:h n∉(z9 h eaten).map Prod.fst:=by intro hx;obtain⟨⟨m,y⟩,h3,h4⟩:=xA.1 hx;simp only at h4;rw[iO,gH,YL] at hnodup1;exact hnodup1.2.2 (h n) (xA.2 ⟨_,kG.2 ⟨n,x,hm,rfl,rfl⟩,rfl⟩) m (xA.2 ⟨_,h3,rfl⟩) h4.symm);exact xA.2 ⟨_,lJ (cX ((z9 h eaten).map Prod.fst)) (Ur h1 h2),rfl⟩
 have hkin':∀ n x,(n,x)∈kept'->h n∈((xO (cX ((z9 h eaten).map Prod.fst)) (gC ((z9 h eaten).map Prod.fst) objs))).map Prod.fst:=by intro n x hm;obtain⟨x',h1⟩:=Y4 hnk hm;grind
 have hmnd:((xO (cX ((z9 h eaten).map Prod.fst)) (gC ((z9 h eaten).map Prod.fst) objs)).map Prod.fst).Nodup:=by simp only[gU];exact (WV _ _).nodup hs.obj.nd
 have hknd:((z9 h kept').map Prod.fst).Nodup:=by grind [dV]
 have hset:∀ {m x},(m,x)∈rE h (xO (cX ((z9 h eaten).map Prod.fst)) (gC ((z9 h eaten).map Prod.fst) objs)) kept'->(∃ n o',(n,o')∈kept'/\m=h n/\x=x9 (ren h) o')\/((m,x)∈(xO (cX ((z9 h eaten).map Prod.fst)) (gC ((z9 h eaten).map Prod.fst) objs))/\m∉(z9 h kept').map Prod.fst) :=
  λhm=>Uq hmnd hkin' hknd hm
 have hβk':∀ n x,(n,x)∈kept'->β' n=β (h n):=by intro n x hm;obtain⟨x',h1⟩:=Y4 hnk hm;exact hβk n x' h1
 have hnew:∀ {n o m x},(n,o)∈made->(m,x)∈(xO (cX ((z9 h eaten).map Prod.fst)) (gC ((z9 h eaten).map Prod.fst) objs))->m≠h n:=λhm hx=>(xT (hfr hm).2 hx).1;have hkm:∀ {n o m o'},(n,o)∈made->(m,o')∈kept'->h m≠h n:=λhm hx e=>by obtain⟨⟨q,y⟩,q1,q2⟩:=xA.1 (hkin' _ _ hx);exact hnew hm q1 (by rw[<-e];exact q2)
 have hinj:∀ n o m o',(n,o)∈kept'++made->(m,o')∈kept'++made->h n=h m->n=m:=λn o m o' hm hm' e=>by
  (rcases uQ.1 hm with h1|h1 <;> rcases uQ.1 hm' with h2|h2);{exact lF hknd h1 h2 e}
  {exact absurd e (hkm h2 h1)};{exact absurd e.symm (hkm h1 h2)};{exact lF (gZ hnd3) h1 h2 e}
 obtain⟨βf,hf1,hf2,hf3,hf4⟩:=MH hinj β β';have hno:∀ {m},m∉(z9 h kept').map Prod.fst->m∉(z9 h made).map Prod.fst->∀ n o,(n,o)∈kept'++made->h n≠m:=λh1 h2 n o hm e=>by rcases uQ.1 hm with h3|h3;{exact h1 (xA.2 ⟨_,kG.2 ⟨n,o,h3,rfl,rfl⟩,e⟩)};{exact h2 (xA.2 ⟨_,kG.2 ⟨n,o,h3,rfl,rfl⟩,e⟩)}
 have hL:∀ m,m∉(z9 h made).map Prod.fst->βf m=β m:=λm hm=>by by_cases hk:m∈(z9 h kept').map Prod.fst;{obtain⟨⟨q,y⟩,q1,q2⟩:=xA.1 hk;obtain⟨n,o,q3,q4,_⟩:=kG.1 q1;simp only at q2;rw[<-q2,q4,hf1 n o (UY made q3),hβk' n o q3]};{exact hf3 m (hno hk hm)}
 have hmn:∀ {d},d∈(z9 h made).map Prod.fst->∃ n o,(n,o)∈made/\d=h n:=λhd=>by obtain⟨⟨q,y⟩,q1,q2⟩:=xA.1 hd;obtain⟨n,o,q3,q4,_⟩:=kG.1 q1;simp only at q2;exact⟨n,o,q3,by rw[<-q2,q4]⟩
 have hnblk:∀ {m x' b},(m,x')∈objs->m∉(z9 h eaten).map Prod.fst->m∉(z9 h kept').map Prod.fst->Own β m x' b->¬Blk (β.ren h) (kept++eaten) b:=by rintro m x' b hm hne hnk' hβ ⟨n,y,hy,hβn⟩;have heq:=hs.obj.inj _ _ _ _ b hm (hmemo hy).1 hβ (rH.1 hβn);rcases uQ.1 hy with hy|hy;{rw[dV,hnk,<-dV] at hnk';exact hnk' (xA.2 ⟨_,kG.2 ⟨n,y,hy,rfl,rfl⟩,heq.symm⟩)};{exact hne (xA.2 ⟨_,kG.2 ⟨n,y,hy,rfl,rfl⟩,heq.symm⟩)}
 have hall:∀ {m x},(m,x)∈rE h (xO (cX ((z9 h eaten).map Prod.fst)) (gC ((z9 h eaten).map Prod.fst) objs)) kept'++z9 h made->(∃ n o',(n,o')∈kept'++made/\m=h n/\x=x9 (ren h) o')\/((m,x)∈(xO (cX ((z9 h eaten).map Prod.fst)) (gC ((z9 h eaten).map Prod.fst) objs))/\m∉(z9 h kept').map Prod.fst/\m∉(z9 h made).map Prod.fst):=λhm=>by rcases uQ.1 hm with h1|h1;{rcases hset h1 with⟨n,o',h2,h3,h4⟩|⟨h2,h3⟩;{exact .inl ⟨n,o',UY made h2,h3,h4⟩};{refine .inr ⟨h2,h3,λhd=>?_⟩;obtain⟨n,o,q1,q2⟩:=hmn hd;exact hnew q1 h2 q2}};{obtain⟨n,o',h2,h3,h4⟩:=kG.1 h1;exact .inl ⟨n,o',Dc kept' h2,h3,h4⟩}
 have hownF:∀ {n o b},(n,o)∈kept'++made->Own βf (h n) (x9 (ren h) o) b->Own β' n o b:=λhm hb=>by rcases hb with hb|⟨i,h1,h2⟩;{exact .inl (by rw[<-hf1 _ _ hm];exact hb)};{exact .inr ⟨i,(jM _ _ i).1 h1,by rw[<-hf2 _ _ i hm];exact h2⟩}
 have hownO:∀ {m x b},m∉(z9 h kept').map Prod.fst->m∉(z9 h made).map Prod.fst->Own βf m x b->Own β m x b:=λh1 h2 hb=>by rcases hb with hb|⟨i,h3,h4⟩;{exact .inl (by rw[<-hf3 _ (hno h1 h2)];exact hb)};{exact .inr ⟨i,h3,by rw[<-hf4 _ i (hno h1 h2)];exact h4⟩}
 have hsim:Sim w0 S0 K0 N (λt=>cX ((z9 h eaten).map Prod.fst) (τ t)) (rE h (xO (cX ((z9 h eaten).map Prod.fst)) (gC ((z9 h eaten).map Prod.fst) objs)) kept'++z9 h made) a w' S' βf:=by
  refine⟨hs.dfr,hs.sz,hld,λt=>?_,⟨?_,?_,?_,?_⟩,?_,?_⟩;{have h1:Rep w' S' β (a.tmps.getD t undef) (cX ((z9 h eaten).map Prod.fst) (τ t)):=XD _ ((hs.tmp t).evo hevo hsub);exact h1.free hL λd hd=>by obtain⟨n,o,q1,rfl⟩:=hmn hd;exact (hfr q1).1 t};{rw[gH,Yx hkin',YL];refine⟨hmnd,gZ hnd3,λx hx y hy e=>?_⟩;obtain⟨n,o,q1,q2⟩:=hmn hy;obtain⟨⟨q,z⟩,q3,q4⟩:=xA.1 hx;simp only at q4;exact hnew q1 q3 (by rw[q4,e,q2])};{intro m x hm;rcases hall hm with⟨n,o',h1,rfl,rfl⟩|⟨h1,h2,h3⟩;{obtain⟨g1,g2⟩:=XV hclo h1;exact By (L:=sO (kept'++made)) (λk hk=>by obtain⟨y,hy⟩:=X7 hk;exact hf1 k y hy) g2 (hf1 n o' h1) (λi=>hf2 n o' i h1) (λi=>Bw g1) (ho'.at_ n o' h1)};{obtain⟨⟨x',h4,rfl⟩,h5⟩:=hmid h1;have hat:=((hs.obj.at_ m x' h4).evo hevo λb hb=>l.same b (hs.obj.un _ _ b h4 hb).2 (hnblk h4 h5 h2 hb)).mono hsub;exact (hat.map (oH _) λv x hx=>XD _ hx).free hL h3 (λi=>hf4 m i (hno h2 h3)) λd hd=>by obtain⟨n,o,q1,rfl⟩:=hmn hd;exact (xT (hfr q1).2 h1).2}};{intro m x b hm hβ;rcases hall hm with⟨n,o',h1,rfl,rfl⟩|⟨h1,h2,h3⟩;{obtain⟨g1,g2⟩:=ho'.un n o' b h1 (hownF h1 hβ);exact⟨λi hS=>pR (g1 i hS),g2⟩};{obtain⟨⟨x',h4,rfl⟩,h5⟩:=hmid h1;have hb:=qD (hownO h2 h3 hβ);obtain⟨q1,q2⟩:=hs.obj.un m x' b h4 hb;exact⟨λi hS=>pR (q1 i (l.old b i q2 (hnblk h4 h5 h2 hb) hS)),uR q2 l.size⟩}}
  ·have cross:∀ {n o m x b},(n,o)∈kept'++made->Own β' n o b->(m,x)∈(xO (cX ((z9 h eaten).map Prod.fst)) (gC ((z9 h eaten).map Prod.fst) objs))->m∉(z9 h kept').map Prod.fst->Own β m x b->False:=λhn hb hm hk hb'=>by obtain⟨⟨x',h4,rfl⟩,h5⟩:=hmid hm;have hb'':=qD hb';rcases hmd _ _ _ hn hb with g|g;{have:=(hs.obj.un _ x' _ h4 hb'').2;omega};{exact hnblk h4 h5 hk hb'' g}
   (intro m x m' x' b hm hm' hβ hβ';rcases hall hm with⟨n,o',h1,rfl,rfl⟩|⟨h1,h2,h3⟩ <;> rcases hall hm' with⟨n',o'',h4,rfl,rfl⟩|⟨h4,h5,h6⟩);{rw[ho'.inj _ _ _ _ b h1 h4 (hownF h1 hβ) (hownF h4 hβ')]}
   {exact (cross h1 (hownF h1 hβ) h4 h5 (hownO h5 h6 hβ')).elim};{exact (cross h4 (hownF h4 hβ') h1 h2 (hownO h2 h3 hβ)).elim};{obtain⟨⟨y,h7,rfl⟩,_⟩:=hmid h1;obtain⟨⟨y',h8,rfl⟩,_⟩:=hmid h4;exact hs.obj.inj _ _ _ _ b h7 h8 (qD (hownO h2 h3 hβ)) (qD (hownO h5 h6 hβ'))}
  {intro m x b hm hβ;rcases hall hm with⟨n,o',h1,rfl,rfl⟩|⟨h1,h2,h3⟩;{rcases hmd n o' b h1 (hownF h1 hβ) with g|g;{exact .inl (vR hs.ld.size g)};{exact (hblk b g).2.2}};{obtain⟨⟨x',h4,rfl⟩,h5⟩:=hmid h1;exact hs.own m x' b h4 (qD (hownO h2 h3 hβ))}};{intro m x hm hb;rcases hall hm with⟨n,o',h1,rfl,rfl⟩|⟨h1,h2,h3⟩;{rcases uQ.1 h1 with h2|h2;{obtain⟨x',h3⟩:=Y4 hnk h2;rw[hf1 n o' h1,hβk' n o' h2];exact hs.keep _ _ (hmemo (UY eaten h3)).1 hb};{have:=jH (hfr h2).2;omega}};{obtain⟨⟨x',h4,rfl⟩,h5⟩:=hmid h1;rw[hf3 m (hno h2 h3)];exact hs.keep m x' h4 hb}}
 have hfin:Rep w' S' βf v (ren h r):=Qs (l:=sO (kept'++made)) (λn hn=>by obtain⟨x,hm⟩:=X7 hn;exact hf1 n x hm) hrep hnm;exact hk _ _ _ _ hsim hfin
theorem JX {ps:PS}{o:Oper}{c:Call}{f:Operand}(hop:o.op=.call c)(hcl:c.callee=.value f)(hd:∀ t,o.dst=some t->t<N){K:PS->Prop}{Km:Act->World->Prop}{Q:Exit->Act->World->Prop}(hs:Sim w0 S0 K0 N (zF ps.tmps) ps.objs a w S β) {g:FuncId} {caps:List PV} (hf:ev (zF ps.tmps) f=.fn g caps) {cargs:List PV} {kept eaten:List (Nat×Obj')} {r:PV} {kept' made:List (Nat×Obj')} (hle:LeL (evs (ev (zF ps.tmps)) c.args.toList++caps) (oW h cargs)) (hso:Sound g cargs kept eaten r kept' made) (hobj:uU h ps.objs (kept++eaten)) (hnd1:ndO (z9 h (kept++eaten))=true) (hnd2:ndO (kept++eaten)=true) (hclo:bM (sO (kept'++made)) (kept'++made)=true) (hnd3:ndO (z9 h made)=true) (hfree:aI h (rZ h eaten ps) made=true) (hlv:yS lv cargs=true) (hlr:lv r=true) (hnm:nmIn (sO (kept'++made)) r=true) (hK:K (put (aA h eaten kept' made ps) o.dst (ren h r))) (hk:∀ ps' a' w' S' β',K ps'->Sim w0 S0 K0 N (zF ps'.tmps) ps'.objs a' w' S' β'->Km a' w'):o.wp Pg a w Km Q:=by
 refine W7 hop hcl hs hf hle hso hobj hnd1 hnd2 hclo hnd3 (λhm=>?_) hlv hlr hnm λw' S' β' v hsim hfin=>?_;{have:=YD hfree hm;simp only[yV,rZ,yK] at this;refine⟨λt=>?_,this.2⟩;rw[<-kP _ (oH _)];grind [qI]}
 ·(have e:(λt=>cX ((z9 h eaten).map Prod.fst) (zF ps.tmps t))=zF (aA h eaten kept' made ps).tmps:=by funext t;exact (kP _ (oH _) _ _).symm);rw[e] at hsim;exact hk _ _ _ _ _ hK (w6 (ps:=aA h eaten kept' made ps) hsim o.dst hd hfin)
theorem Fs:∀ (l:List PV),vG (λv=>v) l=l
 |[]=>rfl| v::r=>by simp only[vG,Fs r]
theorem Fr:∀ (l:List (PV×(Unit->Nat))),sP (λv=>v) l=l
 |[]=>rfl| (v,k)::r=>by simp only[sP,Fr r]
theorem Fp:∀ (l:List (Nat×Obj')),xO (λv=>v) l=l
 |[]=>rfl| (n,o)::r=>by have:=Fp r;cases o <;> simp only[xO,Fs,Fr,this]
theorem Ua:∀ {l:List (Nat×Obj')} {n:Nat} {o:Obj'},yO l n=some o->setO l n o=l
 |[],n,o,h=>by cases h
 |(u,x)::r,n,o,h=>by
  simp only[yO] at h;simp only[setO];cases hu:nqb u n with
  |true =>
   simp_all
  |false =>
   rw[hu] at h;simp only;rw[Ua h]
theorem XB:∀ {kept l:List (Nat×Obj')},uU h l kept->rE h l kept=l
 |[],l,_=>rfl| (n,o)::r,l,H=>by simp only[rE];rw[Ua H.1.1];exact XB H.2
theorem JY {o:Oper}{c:Call}{f:Operand}(hop:o.op=.call c)(hcl:c.callee=.value f){Km:Act->World->Prop}{Q:Exit->Act->World->Prop}(hs:Sim w0 S0 K0 N τ objs a w S β) {g:FuncId} {caps:List PV} (hf:ev τ f=.fn g caps) {cargs:List PV} {kept:List (Nat×Obj')} {r:PV} (hle:LeL (evs (ev τ) c.args.toList++caps) (oW h cargs)) (hso:Sound g cargs kept [] r kept []) (hobj:uU h objs kept) (hnd1:ndO (z9 h kept)=true) (hnd2:ndO kept=true) (hclo:bM (sO kept) kept=true) (hlv:yS lv cargs=true) (hlr:lv r=true) (hnm:nmIn (sO kept) r=true) (hk:∀ w' S' β' v,Sim w0 S0 K0 N τ objs a w' S' β'->Rep w' S' β' v (ren h r)->Km (a.put o.dst v) w'):o.wp Pg a w Km Q:=by
 refine W7 (eaten:=[]) (made:=[]) hop hcl hs hf hle hso (by grind) (by grind) (by grind) (by grind) rfl (λhm=>by cases hm) hlv hlr (by grind) λw' S' β' v hsim hfin=>?_;have e:rE h (xO (cX ((z9 h []).map Prod.fst)) (gC ((z9 h []).map Prod.fst) objs)) kept++z9 h []=objs:=by show rE h (xO (λv=>v) objs) kept++[]=objs;rw[kN,Fp,XB hobj]
 rw[e] at hsim;exact hk _ _ _ _ hsim hfin
end
section
variable {w0:World} {S0:Nat->Nat->Prop} {K0:Nat->Prop} {N:Cx} {τ:Nat->PV} {objs:List (Nat×Obj')} {a:Act} {w w':World} {S S':Nat->Nat->Prop} {β:Bm}
theorem sK {o:Oper}{ps:PS}{K:PS->Prop}{Km:Act->World->Prop}{Q:Exit->Act->World->Prop}(h:Sim w0 S0 K0 N (zF ps.tmps) ps.objs a w S β)(hs:nD o ps K)(hd:∀ t,o.dst=some t->t<N) (hk:∀ ps' a' w' S' β',K ps'->Sim w0 S0 K0 N (zF ps'.tmps) ps'.objs a' w' S' β'->Km a' w'):o.wp Pg a w Km Q:=by
 have hsop:sop ps.objs o.op (ev (zF ps.tmps)) (λv=>K (put ps o.dst v))->o.wp Pg a w Km Q:=λhs =>
  ZM h hs λpv w' S' v hK l hr=>hk _ _ _ _ _ hK (w6 (h.go l) o.dst hd hr)
 unfold nD at hs;split at hs;{rename_i t ad hop;split at hs;{obtain⟨ps',hw,hs⟩:=hs.h;obtain⟨S1,β1,h1⟩:=hw.sound h;exact ZM h1 (by grind) λpv w' S' v hK l hr=>hk _ _ _ _ _ hK (w6 (h1.go l) o.dst hd hr)};grind}
 ·rename_i t hop;split at hs
  ·rename_i d hod;cases hno:(ty t).isNo with
   |true=>grind| false =>
    simp only[hno,cond_false] at hs;obtain⟨i,zv,h1,h2,h3⟩:=GG (w:=w) (S:=S) (β:=β) hno;have hz:wC d (ty t).zero=true:=by
     cases hty:ty t with
     |no=>grind [Ty.isNo]| sc z=>obtain⟨_,_,zv',_,_,_,_,_,_,h7,_⟩:=Xs hty;rw[h7];simp only[Ty.zero,wC,yS,Hb];unfold wP;split <;> rfl
     |st n fs z =>
      obtain⟨_,_,zs,_,_,_,_,_,_,h7,_⟩:=Xr hty;rw[h7];simp only[Ty.zero];generalize zs.toList=l;induction l with
      |nil=>rfl| cons x l ih=>simp only[jB,wC,yS,yK];exact⟨by unfold wP;split <;> rfl,ih⟩
     |arr len n ag z =>
      obtain⟨_,_,zs,_,_,_,_,_,_,_,_,_,_,h7⟩:=iW hty;rw[h7];simp only[Ty.zero];generalize zs.toList=l;induction l with
      |nil=>rfl| cons x l ih=>simp only[jB,wC,yS,yK];exact⟨by unfold wP;split <;> rfl,ih⟩
     |sli n b z=>rfl
    refine o9 (T:=t) hod (hd d hod) h hs h3 ?_ hk hz;simp[execOp,hop,Instr.alloc,pJ h1 h2,newVar,newRow]
  grind
 ·rename_i t x hop;split at hs
  ·rename_i d hod;cases hp:gQ (ev (zF ps.tmps) x) with
   |false=>grind| true =>
    simp only[hp,cond_true] at hs;have hr:=h.eval x;have hz:yV d ps=true->wC d (yR (ev (zF ps.tmps) x))=true:=by
     intro hf;simp only[yV,yK] at hf;have hx:wO d (ev (zF ps.tmps) x)=true:=by
      cases x with
      |tmp t=>exact qI hf.1 t| const v=>simp only[ev];unfold wP;split <;> rfl
      |global g=>rfl| func f=>rfl
     generalize ev (zF ps.tmps) x=y at hx hp;cases y with
     |agg cs =>
      have:∀ (l:List PV),yS (rf1 d) l=true->wC d l=true:=by
       intro l;induction l with
       |nil=>intro _;rfl
       |cons c l ih =>
        intro hl;simp only[yS,yK] at hl;simp only[wC,yS,yK];refine⟨?_,ih hl.2⟩;have h1:=hl.1;have up:∀ (l:List PV),yS (rf0 d) l=true->yS (rf1 d) l=true:=by
         intro l;induction l with
         |nil=>intro _;rfl
         |cons e l ih2 =>
          intro hl;simp only[yS,yK] at hl ⊢;exact⟨by cases e <;> first|(simp[rf0] at hl;done)|exact hl.1,ih2 hl.2⟩
        cases c <;> first|exact h1|exact up _ h1
      exact this cs hx
     |tup cs=>grind [gQ,mO]| _=>simpa only [yR,wC,yS,Hb] using hx
    (have hfree:yV d ps=true:=by grind [Wa]);refine o9 (T:=t) hod (hd d hod) h hs (fH hr hp) ?_ hk (hz hfree)
    simp[execOp,hop,Instr.box,newVar,newRow]
  grind
 ·rename_i t ad vl hop;split at hs
  ·rename_i n off ha;split at hs
   ·rename_i cs ho;cases hc:(nqb (yR (ev (zF ps.tmps) vl)).length (ty t).cells&&nle (off+(ty t).cells) cs.length&&nlt 0 (ty t).cells&&yS mO (yR (ev (zF ps.tmps) vl))) with
    |false=>grind| true =>
     simp only[hc,cond_true] at hs;simp only[yK] at hc;exact Dl hop hd h ha ho (xC hc.1.1.1) (nF hc.1.1.2) (by simp_all) hc.2 hs hk
   grind
  ·rename_i n s i off ha;split at hs
   ·rename_i s' els ho;cases hc:(nqb s s'&&nqb (yR (ev (zF ps.tmps) vl)).length (ty t).cells&&nle (off+(ty t).cells) s&&nlt 0 (ty t).cells&&yS Zu (yR (ev (zF ps.tmps) vl))) with
    |false=>grind| true =>
     simp only[hc,cond_true] at hs;simp only[yK] at hc;have:=xC hc.1.1.1.1;subst this;exact Do hop hd h ha ho (xC hc.1.1.1.2) (nF hc.1.1.2) (by simp_all) hc.2 hs hk
   {exact hs.elim};grind
  grind
 ·rename_i t len parts hop;split at hs
  ·rename_i d n b z hod ht;cases hor:Bz (rM n (v7 (ev (zF ps.tmps)) parts.toList) (pP z len)) with
   |none =>
    rw[hor] at hs;cases he:(nqb len 0&&QB parts.toList) with
    |false =>
     simp only[he] at hs;split at hs
     ·rename_i cs hap;cases hc:(nqb cs.length len&&nqb n 1&&nle len 1000&&yV d ps&&wC d cs) with
      |false=>grind| true =>
       simp only[hc] at hs;simp only[yK] at hc;have e1:=xC hc.1.1.1.2;exact VP hop hod (hd d hod) h ht e1 (e1 ▸ hap) (xC hc.1.1.1.1) (by simp_all) hc.1.2 hc.2 hs hk
     cases hfm:LR z with
     |false=>grind| true =>
      simp only[hfm] at hs;split at hs
      ·rename_i els hfe;cases hc:(nle (len*n) 1000&&nS els) with
       |false=>grind| true =>
        simp only[hc] at hs;rcases hs.h with hs|⟨hfr,hs⟩;{refine hsop ?_;rw[hop];simp only[sop,ht,hfe,hc];grind};{simp only[yK] at hc;exact W8 hop hod (hd d hod) h ht hfe (nF hc.1) hc.2 hfr hs hk}
      grind
    |true =>
     simp only[he] at hs;simp only[yK] at he;cases hfr:yV d ps with
     |false=>grind| true=>simp only[hfr] at hs;exact Kb hop hod (hd d hod) h ht (xC he.1) he.2 hfr hs hk
   |some p =>
    simp only[hor] at hs
  grind
 ·rename_i t l c hop;split at hs
  ·rename_i n b z d x y ht hod hl hc;obtain⟨hR,hM,hs⟩:=hs;cases hf:(yV d ps&&yS Zu z) with
   |false=>grind| true =>
    simp only[hf,cond_true] at hs;simp only[yK] at hf;exact H6 hop hod (hd d hod) h ht hl hc hR hM hf.1 hf.2 hs hk
  grind
 ·rename_i c hop;split at hs;{rename_i g hcl;obtain⟨ps',hw,f,caps,hf,hs⟩:=hs.h;obtain⟨S1,β1,h1⟩:=hw.sound h;rcases hs with⟨args',r,hle,hso,hnm,hK⟩|⟨hn,cargs,kept,eaten,r,kept',made,hle,hso,hobj,hnd1,hnd2,hclo,hnd3,hfree,hlv,hlr,hnm,hK⟩;{exact nT hop hcl h1 hf ⟨args',r,hle,hso,hnm,hK⟩ λpv w' S' v hK' l hr=>hk _ _ _ _ _ hK' (w6 (h1.go l) o.dst hd hr)};{exact JX hop hcl hd h1 hf hle hso hobj hnd1 hnd2 hclo hnd3 hfree hlv hlr hnm hK hk}}
  ·rename_i hcl;split at hs
   ·rename_i b x t tx ha ht;cases htx:Zk (ty tx) with
    |false=>grind| true =>
     simp only[htx,cond_true] at hs;rcases hs.h with hs|hs
     case inr =>
      exact hs.h.elim
     obtain⟨ps',d,nm,n,b',z,xs,hw,hod,hty,hx,hwid,hs⟩:=hs.h;obtain⟨S1,β1,h1⟩:=hw.sound h;exact Cf hop hcl (by grind) (by grind) htx hod (hd d hod) h1 hty hx hwid hs hk
   grind
  all_goals grind
 ·rename_i t hop;split at hs
  ·rename_i d hod;cases hf:yV d ps with
   |false=>grind| true=>simp only[hf] at hs;exact VL hop hod (hd d hod) h hs.1 hf hs.2 hk
  grind
 ·rename_i t m x hop;split at hs
  ·rename_i n k hm hx;split at hs
   ·rename_i t' ks ho;cases ht:nqb t t' with
    |false=>grind| true =>
     simp only[ht] at hs;have e:=xC ht;subst e;exact QK hop hd h hm hx ho hs.1 hs.2 hk
   grind
  grind
 ·rename_i t m x v hop;split at hs
  ·rename_i n k hm hx hv;split at hs
   ·rename_i t' ks ho;cases ht:nqb t t' with
    |false=>grind| true =>
     simp only[ht] at hs;have e:=xC ht;subst e;exact YO hop hd h hm hx hv ho hs.1 hs.2.1 hs.2.2 hk
   grind
  grind
 {rename_i t x yt hop;split at hs;{rename_i n b z els ht hx;have hr:=h.eval x;rw[hx] at hr;obtain⟨pv,val,h1,h2,h3⟩:=QE (w:=w) (S:=S) (β:=β) (x:=x) ht hr hs;refine kT (v:=val) (w':=w) ?_ (hk _ _ _ _ _ h1 (w6 h o.dst hd h3));simp only[execOp,hop,Sem.run_bind] at h2 ⊢;have:a.eval (.const (.slice none 0 0))=.slice none 0 0:=rfl;simp_all};{rename_i n b z m s oo len ht hx;have hr:=h.eval x;rw[hx] at hr;obtain⟨pv,val,h1,h2,h3⟩:=QD (w:=w) (S:=S) (β:=β) (x:=x) ht hr hs;refine kT (v:=val) (w':=w) ?_ (hk _ _ _ _ _ h1 (w6 h o.dst hd h3));simp only[execOp,hop,Sem.run_bind] at h2 ⊢;have:a.eval (.const (.slice none 0 0))=.slice none 0 0:=rfl;simp_all};{rename_i n b z ht hx;have hr:=h.eval x;rw[hx] at hr;have h2:=H3 (w:=w) (x:=x) ht;refine kT (v:=.bool true) (w':=w) ?_ (hk _ _ _ _ _ hs (w6 h o.dst hd (pO (λ_=>true))));simp only[execOp,hop,Sem.run_bind] at h2 ⊢;have:a.eval (.const (.slice none 0 0))=.slice none 0 0:=rfl;simp[this,fR hr,h2]};grind};{rename_i t x yt hop;split at hs;{rename_i n b z els ht hx;have hr:=h.eval x;rw[hx] at hr;obtain⟨pv,val,h1,h2,h3⟩:=VK (K:=λv=>K (put ps o.dst v)) (w:=w) (S:=S) (β:=β) (x:=x) ht hr hs;refine kT (v:=val) (w':=w) ?_ (hk _ _ _ _ _ h1 (w6 h o.dst hd h3));simp only[execOp,hop,Sem.run_bind] at h2 ⊢;have:a.eval (.const (.slice none 0 0))=.slice none 0 0:=rfl;simp_all};{rename_i n b z m s oo len ht hx;have hr:=h.eval x;rw[hx] at hr;obtain⟨pv,val,h1,h2,h3⟩:=VJ (K:=λv=>K (put ps o.dst v)) (w:=w) (S:=S) (β:=β) (x:=x) ht hr hs;refine kT (v:=val) (w':=w) ?_ (hk _ _ _ _ _ h1 (w6 h o.dst hd h3));simp only[execOp,hop,Sem.run_bind] at h2 ⊢;have:a.eval (.const (.slice none 0 0))=.slice none 0 0:=rfl;simp_all};{rename_i n b z ht hx;have hr:=h.eval x;rw[hx] at hr;have h2:=K9 (w:=w) (x:=x) ht;refine kT (v:=.bool false) (w':=w) ?_ (hk _ _ _ _ _ hs (w6 h o.dst hd (m8 (λ_=>true))));simp only[execOp,hop,Sem.run_bind] at h2 ⊢;have:a.eval (.const (.slice none 0 0))=.slice none 0 0:=rfl;simp[this,fR hr,h2]};grind};grind
theorem QS {want:Bool}{v:PV}{A B:Unit->Prop}(h:v≠.tup []):gdV want v A B=(match want with|true=>brV v A B|false=>brV v B A):=by unfold gdV;grind
theorem YX (w:World)(S:Nat->Nat->Prop)(β:Bm):Rep w S β undef (.tup []):=.tup rfl λj hj=>absurd hj (by simp)
theorem aH {ops:List Oper}{o:Oper}{A B:Unit->Prop}(ht:∀ t,Rep w S β (a.tmps.getD t undef) (τ t))(h:j5 ops o τ A B):(Region.wanted o (yielded ops.toArray a.tmps)=true/\A ())\/(Region.wanted o (yielded ops.toArray a.tmps)=false/\B ()):=by
 unfold j5 at h;split at h;{rename_i hg;exact .inl ⟨by simp[Region.wanted,hg],h⟩}
 ·rename_i j want hg;split at h
  ·rename_i oj hj;split at h
   ·rename_i d hd;have key:∀ b,a.tmps.getD d undef=.bool b->Region.wanted o (yielded ops.toArray a.tmps)=(b == want):=by
     intro b hb;have hlt:a.tmps[d]?=some (.bool b):=by
      cases hx:a.tmps[d]? with
      |none =>
       (have:a.tmps.getD d undef=undef:=by simp[hx]);rw[this] at hb
       cases hb
      |some v =>
       simp_all
     grind [Region.wanted,yielded]
    by_cases hu:τ d=.tup []
    ·have hr:=ht d;rw[hu] at hr h;refine .inr ⟨?_,h⟩;have hv:∀ b,a.tmps.getD d undef≠.bool b:=by
      intro b hb;rw[hb] at hr;cases hr with
      |c hf _=>cases hf
     cases hx:a.tmps[d]? with
     |none=>grind [Region.wanted,yielded]| some v =>
      (have e:a.tmps.getD d undef=v:=by simp[hx]);cases v with
      |bool b=>grind| _=>simp[Region.wanted,hg,yielded,hj,hd,hx]
    rw[QS hu] at h;cases want with
    |true =>
     simp only[cond_true] at h;obtain⟨b,hb,h1,h2⟩:=Ye (ht d) h;grind
    |false =>
     simp only[cond_false] at h;obtain⟨b,hb,h1,h2⟩:=Ye (ht d) h;grind
   grind
  grind
theorem Yv {ops:List Oper}{o:Oper}{ps:PS}{K:PS->Prop}(h:Sim w0 S0 K0 N (zF ps.tmps) ps.objs a w S β)(hs:XZ ops o ps K):∃ ps',K ps'/\Sim w0 S0 K0 N (zF ps'.tmps) ps'.objs a w S β:=by
 unfold XZ at hs;cases hg:isG ops o with
 |false=>grind| true =>
  simp only[hg,cond_true] at hs;split at hs
  ·rename_i d hd;have hr:=h.tmp d;split at hs
   ·rename_i b hb;rw[hb] at hr;cases hv:b () with
    |true=>exact⟨_,hs.t hv,h.setT (hr.le .tt (by grind [Le]))⟩| false=>exact⟨_,hs.f hv,h.setT (hr.le .ff (by grind [Le]))⟩
   ·rename_i b hb;rw[hb] at hr;cases hv:b () with
    |true=>exact⟨_,hs.t hv,h.setT (hr.le .ff (by grind [Le]))⟩| false=>exact⟨_,hs.f hv,h.setT (hr.le .tt (by grind [Le]))⟩
   grind
  grind
def nQ (N:Nat) (o:Oper):Bool :=
 match o.dst with
 |none=>true| some d=>decide (d<N)
theorem nP {o:Oper}(h:nQ N o=true):∀ t,o.dst=some t->t<N:=by grind [nQ]
theorem rI {ops:List Oper}{Q:Exit->Act->World->Prop}{K:PS->Prop}(hk:∀ ps' a' w' S' β',K ps'->Sim w0 S0 K0 N (zF ps'.tmps) ps'.objs a' w' S' β'->Q .normal a' w'):∀ (l:List Oper) {ps:PS} {a:Act} {w:World} {S:Nat->Nat->Prop} {β:Bm},(∀ o,o∈l->nQ N o=true)->Sim w0 S0 K0 N (zF ps.tmps) ps.objs a w S β->jZ ops l ps K->wpList Pg ops.toArray Q l a w
 |[],ps,a,w,S,β,_,h,hs=>hk _ _ _ _ _ hs h| o::r,ps,a,w,S,β,hd,h,hs=>by simp only[jZ] at hs;simp only[wpList];have hdo:=nP (hd o xV);rcases aH h.tmp hs with⟨hw,hA⟩|⟨hw,hB⟩;{rw[if_pos hw];exact .inl (sK h hA hdo λps' a' w' S' β' hK hsim=>by obtain⟨ps'',hK',hsim'⟩:=Yv hsim hK;exact rI hk r (λo ho=>hd o (xQ _ ho)) hsim' hK')};{rw[if_neg (by grind)];exact rI hk r (λo ho=>hd o (xQ _ ho)) (w6 h o.dst hdo (YX _ _ _)) hB}
end
end Go.Proofs.YtaeaffgjdcigoaaGreat
