/- A part of the proof: PmM. -/
import Derived.Test.YtboocdbmnfjomaaGreatR09
set_option linter.all false
namespace Go.Proofs.YtboocdbmnfjomaaGreat
open Go
section
variable {w0:World} {S0:Nat->Nat->Prop} {K0:Nat->Prop} {N:Cx} {τ:Nat->PV} {objs:List (Nat×Obj')} {a:Act} {w w':World} {S S':Nat->Nat->Prop} {β β' βf:Bm} {h:Nat->Nat}
theorem oX {v pv}(r:Rep w S β v (rn0 h pv))(hl:lv0 pv=true):Rep w S (β.ren h) v pv:=by
 cases pv with
 |agg cs=>grind [lv0]| tup cs=>grind [lv0]| fn f cs=>grind [lv0]| ptr m off=>obtain⟨b,hβ,rfl⟩:=jP r;exact .ptr hβ
 |aptr m s i off=>obtain⟨b,hβ,rfl⟩:=jE r;exact .aptr hβ
 |osl m s i len =>
  rcases qG r with⟨hn,ho,hl,aa,rfl⟩|⟨b,cap,vs,T,hβ,hlc,hw,hsz,rfl⟩;{exact .osl0 hn ho hl};{exact .osl hβ hlc hw hsz}
 |nil=>rw[dI r];exact .nil| dptr cs o=>obtain⟨b,o',vals,hS,rfl,hf,hc,hr⟩:=sM r;exact .dptr vals hS hf hc hr
 |nilf=>cases r with|c hf h=>cases hf|nilf=>exact .nilf
 |nilp=>cases r with|c hf h=>cases hf|nilp=>exact .nilp
 |mpv n=>obtain⟨b,hβ,rfl⟩:=oV r;exact .mpv hβ
 |emp=>obtain⟨a,hv⟩:=oW r;subst hv;exact .emp a
 |_=>exact .c rfl (XQ r rfl)
theorem Qk {v pv}(r:Rep w S β v (rn1 h pv))(hl:lv1 pv=true):Rep w S (β.ren h) v pv:=by
 cases pv with
 |agg cs =>
  obtain⟨vs,rfl,h1,h2⟩:=kC r;rw[zO] at h1;exact .agg h1 λj hj=>oX (by have:=h2 j (by grind [zO]);rwa [yQ _ rfl] at this) (wY (by grind [lv1]) j hj)
 |tup cs =>
  obtain⟨vs,rfl,h1,h2⟩:=dH r;rw[zO] at h1;exact .tup h1 λj hj=>oX (by have:=h2 j (by grind [zO]);rwa [yQ _ rfl] at this) (wY (by grind [lv1]) j hj)
 |fn f cs =>
  obtain⟨vs,rfl,h1,h2⟩:=dJ r;rw[zO] at h1;exact .fn h1 λj hj=>oX (by have:=h2 j (by grind [zO]);rwa [yQ _ rfl] at this) (wY (by grind [lv1]) j hj)
 |_=>exact oX r rfl
theorem Qj {v pv}(r:Rep w S β v (ren h pv))(hl:lv pv=true):Rep w S (β.ren h) v pv:=by
 cases pv with
 |agg cs =>
  obtain⟨vs,rfl,h1,h2⟩:=kC r;rw[zO] at h1;exact .agg h1 λj hj=>Qk (by have:=h2 j (by grind [zO]);rwa [yQ _ rfl] at this) (wY (by grind [lv]) j hj)
 |tup cs =>
  obtain⟨vs,rfl,h1,h2⟩:=dH r;rw[zO] at h1;exact .tup h1 λj hj=>Qk (by have:=h2 j (by grind [zO]);rwa [yQ _ rfl] at this) (wY (by grind [lv]) j hj)
 |fn f cs =>
  obtain⟨vs,rfl,h1,h2⟩:=dJ r;rw[zO] at h1;exact .fn h1 λj hj=>Qk (by have:=h2 j (by grind [zO]);rwa [yQ _ rfl] at this) (wY (by grind [lv]) j hj)
 |_=>exact oX r rfl
theorem mY {l:List Nat}(hl':∀ n,n∈l->βf (h n)=β' n){v pv}(r:Rep w S β' v pv)(hn:nm0 l pv=true):Rep w S βf v (rn0 h pv):=by
 cases pv with
 |agg cs=>grind [nm0]| tup cs=>grind [nm0]| fn f cs=>grind [nm0]| ptr m off=>obtain⟨b,hβ,rfl⟩:=jP r;exact .ptr (by grind [vC,nm0])
 |mpv m=>obtain⟨b,hβ,rfl⟩:=oV r;exact .mpv (by grind [vC,nm0])
 |aptr m s i off=>obtain⟨b,hβ,rfl⟩:=jE r;exact .aptr (by grind [vC,nm0])
 |osl m s i len =>
  have e:=hl' _ (vC (by simpa only [nm0] using hn));rcases qG r with⟨hn,ho,hl,aa,rfl⟩|⟨b,cap,vs,T,hβ,hlc,hw,hsz,rfl⟩;{exact .osl0 (by grind) ho hl};{exact .osl (by grind) hlc hw hsz}
 |nil=>rw[dI r];exact .nil| dptr cs o=>obtain⟨b,o',vals,hS,rfl,hf,hc,hr⟩:=sM r;exact .dptr vals hS hf hc hr
 |nilf=>cases r with|c hf h=>cases hf|nilf=>exact .nilf
 |nilp=>cases r with|c hf h=>cases hf|nilp=>exact .nilp
 |emp=>obtain⟨a,hv⟩:=oW r;subst hv;exact .emp a
 |_=>exact .c rfl (XQ r rfl)
theorem XU {l:List Nat}(hl':∀ n,n∈l->βf (h n)=β' n){v pv}(r:Rep w S β' v pv)(hn:nm1 l pv=true):Rep w S βf v (rn1 h pv):=by
 cases pv with
 |agg cs =>
  obtain⟨vs,rfl,h1,h2⟩:=kC r;exact .agg (by grind [zO]) λj hj=>by rw[zO] at hj;rw[yQ _ rfl];grind [mY,wY,nm1]
 |tup cs =>
  obtain⟨vs,rfl,h1,h2⟩:=dH r;exact .tup (by grind [zO]) λj hj=>by rw[zO] at hj;rw[yQ _ rfl];grind [mY,wY,nm1]
 |fn f cs =>
  obtain⟨vs,rfl,h1,h2⟩:=dJ r;exact .fn (by grind [zO]) λj hj=>by rw[zO] at hj;rw[yQ _ rfl];grind [mY,wY,nm1]
 |_=>exact mY hl' r hn
theorem Qi {l:List Nat}(hl':∀ n,n∈l->βf (h n)=β' n){v pv}(r:Rep w S β' v pv)(hn:nmIn l pv=true):Rep w S βf v (ren h pv):=by
 cases pv with
 |agg cs =>
  obtain⟨vs,rfl,h1,h2⟩:=kC r;exact .agg (by grind [zO]) λj hj=>by rw[zO] at hj;rw[yQ _ rfl];grind [XU,wY,nmIn]
 |tup cs =>
  obtain⟨vs,rfl,h1,h2⟩:=dH r;exact .tup (by grind [zO]) λj hj=>by rw[zO] at hj;rw[yQ _ rfl];grind [XU,wY,nmIn]
 |fn f cs =>
  obtain⟨vs,rfl,h1,h2⟩:=dJ r;exact .fn (by grind [zO]) λj hj=>by rw[zO] at hj;rw[yQ _ rfl];grind [XU,wY,nmIn]
 |_=>exact mY hl' r hn
theorem V5 (n:Nat):∀ {cs:List PV},y4 iU cs=true->wM n cs=true
 |[],_=>rfl| c::cs,h=>by simp only[y4,yS] at h;simp only[wM,y4,yS];exact⟨by cases c <;> simp_all [iU,qV,xN,rf0],V5 n h.2⟩
theorem Yv {n:Nat}(hn:n<1000000):∀ {l:List (Nat×Obj')},(∀ m o,(m,o)∈l->m≠n/\bM n o)->xO n l=true
 |[],_=>by grind [xO,nlt]| (m,o1)::r,h=>by
  (have h1:=h m _ wZ;have h2:=Yv hn (l:=r) λm o hm=>h m o (wJ _ hm);have e:(!(nqb m n))=true:=by grind [H2]);cases o1 with
  |box cs=>simp only[xO,yS];exact⟨⟨e,h1.2⟩,h2⟩| arr s els=>simp only[xO,yS];grind| log s els=>simp only[xO,yS];grind| lent s els=>simp only[xO,yS];grind| mp t k=>simp only[xO,yS];grind| mat s rows hs=>simp only[xO,yS];exact⟨⟨e,h1.2⟩,h2⟩
theorem XD:∀ (l:List Nat) {v pv},Rep w S β v pv->Rep w S β v (bN l pv)
 |[],v,pv,h=>h| n::r,v,pv,h=>XD r (YY h)
theorem oK:∀ (l:List Nat),bN l .any=.any
 |[]=>rfl| n::r=>oK r
theorem Wl:∀ {l:List Nat} {objs:List (Nat×Obj')} {m:Nat} {o:Obj'},(m,o)∈gV l objs->(m,o)∈objs/\m∉l
 |[],objs,m,o,h=>⟨h,by simp⟩| n::r,objs,m,o,h=>by obtain⟨h1,h2⟩:=Wl (l:=r) h;grind [wX]
theorem W0:∀ (l:List Nat) (objs:List (Nat×Obj')),((gV l objs).map Prod.fst).Sublist (objs.map Prod.fst)
 |[],objs=>List.Sublist.refl _| n::r,objs=>(W0 r _).trans (nJ _ _)
theorem Ur:∀ {l:List Nat} {objs:List (Nat×Obj')} {m:Nat} {o:Obj'},(m,o)∈objs->m∉l->(m,o)∈gV l objs
 |[],objs,m,o,h,_=>h| n::r,objs,m,o,h,hn=>by simp only[yR,not_or] at hn;exact Ur (l:=r) (pO h hn.1) hn.2
theorem kZ:∀ {l:List (Nat×Obj')} {m:Nat} {x:Obj'},(m,x)∈yC h l↔∃ n o,(n,o)∈l/\m=h n/\x=x7 (ren h) o
 |[],m,x=>by simp[yC]| (n,y)::r,m,x=>by simp only[yC,yR,kZ (l:=r)];constructor;{rintro (e|⟨k,o,hk,e1,e2⟩);{cases e;exact⟨n,y,.inl rfl,rfl,rfl⟩};grind};grind
theorem iL:∀ (l k:List (Nat×Obj')),yC h (l++k)=yC h l++yC h k
 |[],k=>rfl| (n,x)::r,k=>by simp[yC,iL r k]
theorem bA:∀ (l:List (Nat×Obj')),(yC h l).map Prod.fst=(l.map Prod.fst).map h
 |[]=>rfl| (n,x)::r=>by simp[yC,bA r]
theorem nC:∀ {l objs:List (Nat×Obj')},uH h objs l->∀ {n o},(n,o)∈l->(h n,x7 (ren h) o)∈objs/\bR o=true
 |(m,x)::r,objs,H,n,o,hm=>by simp only[yR] at hm;rcases hm with hm|hm;{cases hm;exact⟨xG H.1.1,H.1.2⟩};{exact nC H.2 hm}
theorem X5 {L:List Nat}:∀ {l:List (Nat×Obj')},cZ L l=true->∀ {n o},(n,o)∈l->bR o=true/\H0 L o=true
 |(m,x)::r,H,n,o,hm=>by simp only[cZ,yS] at H;simp only[yR] at hm;rcases hm with hm|hm;{grind};{exact X5 H.2 hm}
theorem Vn {p:PV->Bool}:∀ {hs:List (PV×(Unit->Nat))},Sl p hs=true->∀ {v k},(v,k)∈hs->p v=true
 |(u,j)::r,H,v,k,hm=>by simp only[Sl,yS] at H;rcases yR.1 hm with hm|hm;{grind};{exact Vn H.2 hm}
theorem Fd {n:Nat}{o:Obj'}(ho:bR o=true)(hat:ObjAt w S β (h n) (x7 (ren h) o)):ObjAt w S (β.ren h) n o:=by
 cases o with
 |box cs =>
  obtain⟨b,vs,T,e1,e2,e3,e4⟩:=hat;rw[zO] at e3;exact⟨b,vs,T,e1,e2,e3,λj hj=>Qj (by have:=e4 j (by grind [zO]);rwa [yQ _ rfl] at this) (wY (by grind [bR]) j hj)⟩
 |arr s els=>exact hat| log s els=>cases ho
 |lent s els=>cases ho
 |mp t k=>exact hat| mat s rows hs =>
  obtain⟨hp,h5,h6⟩:=hat;have hr:=jX (ren h) (.mat s rows hs);refine⟨?_,λi j b hi hj=>h5 i j b ((hr i).2 hi) ((hr j).2 hj),λi b hi=>h6 i b ((hr i).2 hi)⟩;rcases hp with⟨e1,e2,e3⟩|⟨b,vs,T,h1,h2,h3,h4,h7⟩
  ·refine .inl ⟨e1,e2,?_⟩;cases hs with
   |nil=>rfl| cons x r=>cases e3
  {exact .inr ⟨b,vs,T,h1,h2,h3,λv k hk=>⟨(h4 _ k (n9 (ren h) hk)).1,Qj (h4 _ k (n9 (ren h) hk)).2 (Vn (by grind [bR]) hk)⟩,λi hi=>h7 i ((hr i).2 hi)⟩}
theorem BN {L:List Nat}{n:Nat}{o:Obj'}(hL:∀ k,k∈L->βf (h k)=β' k)(hn:H0 L o=true)(h0:βf (h n)=β' n)(h1:∀ i,βf.r (h n) i=β'.r n i)(hpub:∀ i,¬gF o i)(hat:ObjAt w S β' n o):ObjAt w S βf (h n) (x7 (ren h) o):=by
 cases o with
 |box cs =>
  obtain⟨b,vs,T,e1,e2,e3,e4⟩:=hat;exact⟨b,vs,T,by grind,e2,by grind [zO],λj hj=>by rw[zO] at hj;rw[yQ _ rfl];grind [Qi,wY,H0]⟩
 |arr s els =>
  rcases hat with⟨e0,e⟩|⟨b,vs,T,e1,rest⟩;{exact .inl ⟨by grind,e⟩};{exact .inr ⟨b,vs,T,by grind,rest⟩}
 |log s els =>
  rcases hat with⟨e0,e⟩|⟨b,vs,T,e1,rest⟩;{exact .inl ⟨by grind,e⟩};{exact .inr ⟨b,vs,T,by grind,rest⟩}
 |lent s els =>
  obtain⟨hat,hst⟩:=hat;refine⟨?_,λb hb i hi=>hst b (by grind) i hi⟩;rcases hat with⟨e0,e⟩|⟨b,vs,T,e1,rest⟩;{exact .inl ⟨by grind,e⟩};{exact .inr ⟨b,vs,T,by grind,rest⟩}
 |mp t k=>exact MapAt.to hat h0 λ_ _=>rfl| mat s rows hs =>
  obtain⟨hp,h5,h6⟩:=hat;have hr:=jX (ren h) (.mat s rows hs);refine⟨?_,λi j b hi hj e1 e2=>h5 i j b ((hr i).1 hi) ((hr j).1 hj) (by grind) (by grind),λi b hi e1=>by rw[h0];exact h6 i b ((hr i).1 hi) (by grind)⟩;rcases hp with⟨e1,e2,e3⟩|⟨b,vs,T,g1,g2,g3,g4,g7⟩;{subst e3;exact .inl ⟨by grind,e2,rfl⟩};{refine .inr ⟨b,vs,T,by grind,g2,g3,λv k hk=>?_,λi hi=>by rw[h1];exact g7 i ((hr i).1 hi)⟩;obtain⟨v',hk',rfl⟩:=Zd _ hk;grind [Qi,Vn,H0]}
theorem BM {o:Obj'}(hc:bR o=true){i:Nat}:¬gF o i:=by
 cases o with
 |box cs=>exact id| arr s els=>exact id| log s els=>cases hc
 |lent s els=>cases hc
 |mp t k=>exact id| mat s rows hs=>exact id
theorem rN {n:Nat}{o:Obj'}{b:Nat}:Own (β.ren h) n o b↔Own β (h n) (x7 (ren h) o) b:=by constructor;{rintro (e|⟨i,h1,h2⟩);{exact .inl e};{exact .inr ⟨i,(jX _ o i).2 h1,h2⟩}};{rintro (e|⟨i,h1,h2⟩);{exact .inl e};{exact .inr ⟨i,(jX _ o i).1 h1,h2⟩}}
theorem YG {ps:PS}:∀ {l:List (Nat×Obj')},aR h ps l=true->∀ {n o},(n,o)∈l->yO (h n) ps=true
 |(m,x)::r,H,n,o,hm=>by simp only[aR,yS] at H;simp only[yR] at hm;rcases hm with hm|hm;{grind};{exact YG H.2 hm}
theorem We:∀ {l:List (Nat×Obj')} {n:Nat},n∈bY l->∃ o,(n,o)∈l
 |(m,x)::r,n,hm=>by simp only[bY,yR] at hm;rcases hm with hm|hm;{grind};{obtain⟨o,ho⟩:=We hm;grind}
theorem Ft:∀ {l:List Nat},(l.map h).Nodup->∀ {n m},n∈l->m∈l->h n=h m->n=m
 |x::r,hnd,n,m,hn,hm,e=>by simp only[j3,Vr] at hnd;simp only[yR] at hn hm;rcases hn with rfl|hn;{grind};{rcases hm with rfl|hm;{grind};{exact Ft hnd.2 hn hm e}}
theorem n7 {l:List (Nat×Obj')}(hnd:((yC h l).map Prod.fst).Nodup){n m:Nat}{o o':Obj'}(hn:(n,o)∈l)(hm:(m,o')∈l)(e:h n=h m):n=m:=by rw[bA] at hnd;have h1:n∈l.map Prod.fst:=y9.2 ⟨_,hn,rfl⟩;have h2:m∈l.map Prod.fst:=y9.2 ⟨_,hm,rfl⟩;grind [Ft]
section
variable {L:List Nat}
theorem Rep.free0 (hL:∀ m,m∉L->βf m=β m){v pv}(r:Rep w S β v pv)(hf:∀ d,d∈L->rf0 d pv=true):Rep w S βf v pv:=by
 have key:∀ m,(∀ d,d∈L->(!(nqb m d))=true)->βf m=β m:=λm hm=>hL m λhin=>by have:=hm m hin;simp_all
 cases r with
 |c hc h=>exact .c hc h| nil=>exact .nil| agg hl h =>
  cases L with
  |nil=>exact (by have e:∀ m,βf m=β m:=λm=>hL m (by simp);exact .agg hl λj hj=>(h j hj).place e)| cons d r=>grind [List.mem_cons_self,rf0]
 |tup hl h =>
  cases L with
  |nil=>exact (by have e:∀ m,βf m=β m:=λm=>hL m (by simp);exact .tup hl λj hj=>(h j hj).place e)| cons d r=>grind [List.mem_cons_self,rf0]
 |fn hl h =>
  cases L with
  |nil=>exact (by have e:∀ m,βf m=β m:=λm=>hL m (by simp);exact .fn hl λj hj=>(h j hj).place e)| cons d r=>grind [List.mem_cons_self,rf0]
 |ptr hβ=>exact .ptr (by grind [rf0])| aptr hβ=>exact .aptr (by grind [rf0])| dptr vals hSb hf' hc hr=>exact .dptr vals hSb hf' hc hr| osl hβ hlc hb hsz=>exact .osl (by grind [rf0]) hlc hb hsz| nilf=>exact .nilf| nilp=>exact .nilp| mpv hβ=>exact .mpv (by grind [rf0])| emp a=>exact .emp a| osl0 hβ ho hl=>exact .osl0 (by grind [rf0]) ho hl
theorem bG {p:Nat->PV->Bool}(hp:∀ d,p d .any=true){cs:List PV}(hf:∀ d,d∈L->y4 (p d) cs=true)(j:Nat):∀ d,d∈L->p d (cs.getD j .any)=true:=λd hd=>xU (hp d) (hf d hd) j
theorem Rep.free1 (hL:∀ m,m∉L->βf m=β m){v pv}(r:Rep w S β v pv)(hf:∀ d,d∈L->rf1 d pv=true):Rep w S βf v pv:=by
 cases r with
 |agg hl h=>exact .agg hl λj hj=>(h j hj).free0 hL (bG (λ_=>rfl) (λd hd=>by grind [rf1]) j)| tup hl h=>exact .tup hl λj hj=>(h j hj).free0 hL (bG (λ_=>rfl) (λd hd=>by grind [rf1]) j)| fn hl h=>exact .fn hl λj hj=>(h j hj).free0 hL (bG (λ_=>rfl) (λd hd=>by grind [rf1]) j)| c hc h=>exact .c hc h| nil=>exact .nil| ptr hβ=>exact (Rep.ptr hβ).free0 hL hf| aptr hβ=>exact (Rep.aptr hβ).free0 hL hf| dptr vals hSb hf' hc hr=>exact .dptr vals hSb hf' hc hr| osl hβ hlc hb hsz=>exact (Rep.osl hβ hlc hb hsz).free0 hL hf| nilf=>exact .nilf| nilp=>exact .nilp| mpv hβ=>exact (Rep.mpv hβ).free0 hL hf| emp a=>exact .emp a| osl0 hβ ho hl=>exact (Rep.osl0 hβ ho hl).free0 hL hf
theorem Rep.free (hL:∀ m,m∉L->βf m=β m){v pv}(r:Rep w S β v pv)(hf:∀ d,d∈L->xN d pv=true):Rep w S βf v pv:=by
 cases r with
 |agg hl h=>exact .agg hl λj hj=>(h j hj).free1 hL (bG (λ_=>rfl) (λd hd=>by grind [xN]) j)| tup hl h=>exact .tup hl λj hj=>(h j hj).free1 hL (bG (λ_=>rfl) (λd hd=>by grind [xN]) j)| fn hl h=>exact .fn hl λj hj=>(h j hj).free1 hL (bG (λ_=>rfl) (λd hd=>by grind [xN]) j)| c hc h=>exact .c hc h| nil=>exact .nil| ptr hβ=>exact (Rep.ptr hβ).free0 hL hf| aptr hβ=>exact (Rep.aptr hβ).free0 hL hf| dptr vals hSb hf' hc hr=>exact .dptr vals hSb hf' hc hr| osl hβ hlc hb hsz=>exact (Rep.osl hβ hlc hb hsz).free0 hL hf| nilf=>exact .nilf| nilp=>exact .nilp| mpv hβ=>exact (Rep.mpv hβ).free0 hL hf| emp a=>exact .emp a| osl0 hβ ho hl=>exact (Rep.osl0 hβ ho hl).free0 hL hf
theorem ObjAt.free {m:Nat}{o:Obj'}(hL:∀ m,m∉L->βf m=β m)(hm:m∉L)(hr:∀ i,βf.r m i=β.r m i)(hf:∀ d,d∈L->bM d o)(hat:ObjAt w S β m o):ObjAt w S βf m o:=by
 have e:=hL m hm;have hrow:∀ {s els},RowAt w S β m s els->RowAt w S βf m s els:=λh=>by rcases h with⟨e0,e1⟩|⟨b,vs,T,e1,rest⟩;{exact .inl ⟨by grind,e1⟩};{exact .inr ⟨b,vs,T,by grind,rest⟩}
 cases o with
 |box cs =>
  obtain⟨b,vs,T,e1,e2,e3,e4⟩:=hat;exact⟨b,vs,T,by grind,e2,e3,λj hj=>(e4 j hj).free hL (bG (p:=xN) (λ_=>rfl) (λd hd=>hf d hd) j)⟩
 |arr s els=>exact hrow hat| log s els=>exact hrow hat| lent s els=>exact⟨hrow hat.1,λb hb i hi=>hat.2 b (by grind) i hi⟩| mp t k=>exact MapAt.to hat e λ_ _=>rfl| mat s rows hs =>
  obtain⟨hp,h5,h6⟩:=hat;refine⟨?_,λi j b hi hj e1 e2=>h5 i j b hi hj (by grind) (by grind),λi b hi e1=>by grind⟩;rcases hp with⟨e1,e2,e3⟩|⟨b,vs,T,g1,g2,g3,g4,g7⟩;{grind};{exact .inr ⟨b,vs,T,by grind,g2,g3,λv k hk=>⟨(g4 v k hk).1,(g4 v k hk).2.free hL λd hd=>aJ (hf d hd) hk⟩,λi hi=>by grind⟩}
end
theorem Uq:∀ {k l:List (Nat×Obj')} {m:Nat} {o:Obj'},(l.map Prod.fst).Nodup->(∀ n x,(n,x)∈k->h n∈l.map Prod.fst)->((yC h k).map Prod.fst).Nodup->(m,o)∈rJ h l k ->(∃ n o',(n,o')∈k/\m=h n/\o=x7 (ren h) o')\/((m,o)∈l/\m∉(yC h k).map Prod.fst)
 |[],l,m,o,hnd,hin,hk,hm=>.inr ⟨hm,by simp[yC]⟩| (n,x)::r,l,m,o,hnd,hin,hk,hm=>by have hn:=hin n x wZ;simp only[yC,j3,Vr] at hk;simp only[rJ] at hm;have hnm:(setO l (h n) (x7 (ren h) x)).map Prod.fst=l.map Prod.fst:=uD hn;rcases Uq (k:=r) (by grind) (λk y hk=>by grind) hk.2 hm with⟨k,y,h1,h2⟩|⟨h1,h2⟩;{grind};{rcases xS hnd hn h1 with⟨rfl,rfl⟩|⟨h3,h4⟩;{grind};{exact .inr ⟨h4,by simp only[yC,j3,yR,not_or];grind⟩}}
theorem Yz:∀ {k l:List (Nat×Obj')},(∀ n x,(n,x)∈k->h n∈l.map Prod.fst)->(rJ h l k).map Prod.fst=l.map Prod.fst
 |[],l,_=>rfl| (n,x)::r,l,hin=>by have hn:=hin n x wZ;have hnm:(setO l (h n) (x7 (ren h) x)).map Prod.fst=l.map Prod.fst:=uD hn;simp only[rJ];rw[Yz (k:=r) (λk y hk=>by grind),hnm]
theorem Y7 {l k:List (Nat×Obj')}(e:l.map Prod.fst=k.map Prod.fst){n:Nat}{o:Obj'}(hm:(n,o)∈l):∃ o',(n,o')∈k:=by
 have h1:n∈k.map Prod.fst:=by grind
 grind
theorem Um {f:PV->PV}{o:Obj'}(hc:bR o=true){i:Nat}:¬gF (x7 f o) i:=by
 cases o with
 |box cs=>exact id| arr s els=>exact id| log s els=>cases hc
 |lent s els=>cases hc
 |mp t k=>exact id| mat s rows hs=>exact id
theorem ObjAt.map {f:PV->PV}{m:Nat}{o:Obj'}(hf:f .any=.any)(hr:∀ v x,Rep w S β v x->Rep w S β v (f x))(h:ObjAt w S β m o):ObjAt w S β m (x7 f o):=by
 cases o with
 |box cs =>
  obtain⟨b,vs,T,e1,e2,e3,e4⟩:=h;exact⟨b,vs,T,e1,e2,by grind [zO],λj hj=>by grind [zO,yQ]⟩
 |arr s els=>exact h| log s els=>exact h| lent s els=>exact h| mp t k=>exact h| mat s rows hs=>exact MatAt.map h (λ_ _ h=>h) λv x k _ hv=>hr v x hv
theorem oZ {f:PV->PV}{n:Nat}(hf:∀ v,xN n (f v)=true):∀ hs:List (PV×(Unit->Nat)),sQ n (gQ f hs)=true
 |[]=>rfl| (v,k)::r=>by simp only[gQ,sQ,hf,oZ hf r];rfl
theorem Xw {c:PV}(hc:iU c=true):ren h c=c/\lv c=true/\∀ l,nmIn l c=true:=by cases c <;> simp[iU,qV] at hc <;> exact⟨rfl,rfl,λ_=>rfl⟩
theorem W7 {o:Obj'}(hc:tY o=true):x7 (ren h) o=o:=by
 cases o with
 |box cs =>
  show Obj'.box (w8 (ren h) cs)=_;have:∀ l:List PV,y4 iU l=true->w8 (ren h) l=l:=by
   intro l;induction l with
   |nil=>intro _;rfl
   |cons c r ih=>intro hl;simp only[y4,yS] at hl;grind [w8,Xw]
  rw[this cs hc]
 |mat s rows hs =>
  cases hs with
  |nil=>rfl| cons x r=>cases hc
 |_=>rfl
theorem YJ {o:Obj'}(hc:tY o=true):bR o=true:=by
 cases o with
 |box cs =>
  have:∀ l:List PV,y4 iU l=true->y4 lv l=true:=by
   intro l;induction l with
   |nil=>intro _;rfl
   |cons c r ih=>intro hl;simp only[y4,yS] at hl ⊢;exact⟨(Xw (h:=id) hl.1).2.1,ih hl.2⟩
  exact this cs hc
 |arr s els=>rfl| log s els=>cases hc
 |lent s els=>cases hc
 |mp t k=>rfl| mat s rows hs =>
  cases hs with
  |nil=>rfl| cons x r=>cases hc
theorem D6 {o:Obj'}{l:List Nat}(hc:tY o=true):H0 l o=true:=by
 cases o with
 |box cs =>
  have:∀ k:List PV,y4 iU k=true->y4 (nmIn l) k=true:=by
   intro k;induction k with
   |nil=>intro _;rfl
   |cons c r ih=>intro hl;simp only[y4,yS] at hl ⊢;exact⟨(Xw (h:=id) hl.1).2.2 l,ih hl.2⟩
  exact this cs hc
 |mat s rows hs =>
  cases hs with
  |nil=>rfl| cons x r=>cases hc
 |_=>rfl
theorem MP {l:List (Nat×Obj')}(hinj:∀ n o m o',(n,o)∈l->(m,o')∈l->h n=h m->n=m)(β β':Bm):∃ βf:Bm,(∀ n o,(n,o)∈l->βf (h n)=β' n)/\(∀ n o i,(n,o)∈l->βf.r (h n) i=β'.r n i) /\ (∀ m,(∀ n o,(n,o)∈l->h n≠m)->βf m=β m)/\∀ m i,(∀ n o,(n,o)∈l->h n≠m)->βf.r m i=β.r m i:=by
 classical
 refine⟨⟨λm=>if e:∃ n o,(n,o)∈l/\h n=m then β' (Classical.choose e) else β m,λm i=>if e:∃ n o,(n,o)∈l/\h n=m then β'.r (Classical.choose e) i else β.r m i⟩,λn o hm=>?_,λn o i hm=>?_,λm hno=>?_,λm i hno=>?_⟩;{have e:∃ k o,(k,o)∈l/\h k=h n:=⟨n,o,hm,rfl⟩;grind};{have e:∃ k o,(k,o)∈l/\h k=h n:=⟨n,o,hm,rfl⟩;grind}
 all_goals grind
theorem W9 {o:Oper}{c:Call}{f:Operand}(hop:o.op=.call c)(hcl:c.callee=.value f){Km:Act->World->Prop}{Q:Exit->Act->World->Prop}(hs:Sim w0 S0 K0 N τ objs a w S β) {g:FuncId} {caps:List PV} (hf:ev τ f=.fn g caps) {cargs:List PV} {kept eaten:List (Nat×Obj')} {r:PV} {kept' made:List (Nat×Obj')} (hle:LeL (evs (ev τ) c.args.toList++caps) (i4 h cargs)) (hso:Sound g cargs kept eaten r kept' made) (hobj:uH h objs (kept++eaten)) (hnd1:ndO (yC h (kept++eaten))=true) (hnd2:ndO (kept++eaten)=true) (hclo:cZ (bY (kept'++made)) (kept'++made)=true) (hnd3:ndO (yC h made)=true) (hfr:∀ {n o},(n,o)∈made->(∀ t,xN (h n) (bN ((yC h eaten).map Prod.fst) (τ t))=true)/\xO (h n) (xB (bN ((yC h eaten).map Prod.fst)) (gV ((yC h eaten).map Prod.fst) objs))=true) (hlv:y4 lv cargs=true) (hlr:lv r=true) (hnm:nmIn (bY (kept'++made)) r=true) (hk:∀ w' S' β' v,Sim w0 S0 K0 N (λt=>bN ((yC h eaten).map Prod.fst) (τ t)) (rJ h (xB (bN ((yC h eaten).map Prod.fst)) (gV ((yC h eaten).map Prod.fst) objs)) kept'++yC h made) a w' S' β'->Rep w' S' β' v (ren h r)->Km (a.put o.dst v) w'):o.wp Pg a w Km Q:=by
 have hfv:=hs.eval f;rw[hf] at hfv;obtain⟨vs,hv,hl,hr⟩:=dJ hfv;have hargs:=((Xc (λx=>hs.eval x) c.args.toList).append ⟨hl,hr⟩).le hle;have hnodup1:=fW hnd1;have hmemo:∀ {n x},(n,x)∈kept++eaten->(h n,x7 (ren h) x)∈objs/\bR x=true:=λhm=>nC hobj hm;have hblk:∀ b,Blk (β.ren h) (kept++eaten) b->(∀ i,¬S b i)/\b<w.heap.size/\(w0.heap.size<=b\/K0 b):=by rintro b ⟨n,x,hm,hβ⟩;obtain⟨h1,h2⟩:=hmemo hm;have hβ':=rN.1 hβ;exact⟨λi hS=>Um h2 ((hs.obj.un _ _ b h1 hβ').1 i hS),(hs.obj.un _ _ b h1 hβ').2,hs.own _ _ b h1 hβ'⟩
 have hobjs:ObjsAt w S (β.ren h) (kept++eaten):=⟨fW hnd2,λn x hm=>Fd (hmemo hm).2 (hs.obj.at_ _ _ (hmemo hm).1),λn x b hm hβ=>⟨λi hS=>absurd hS ((hblk b ⟨n,x,hm,hβ⟩).1 i),(hblk b ⟨n,x,hm,hβ⟩).2.1⟩,
  λn x m y b hm hm' hβ hβ'=>n7 hnodup1 hm hm' (hs.obj.inj _ _ _ _ b (hmemo hm).1 (hmemo hm').1 (rN.1 hβ) (rN.1 hβ'))⟩
 have hlen:(i4 h cargs).length=cargs.length:=zO _ _;unfold Oper.wp;rw[mU hop hcl hv hso.isf,Oper.upon_enter];refine (hso.go w S (β.ren h) _ hs.ld.bnd hobjs (by rw[hargs.1,hlen]) (λj hj=>Qj (by have:=hargs.2 j oM;rwa [i4,yQ _ rfl] at this) (wY hlv j hj))).mono ?_;rintro e w' ⟨v,S',β',rfl,l,hrep,ho',hnk,hβk,hmd⟩;show Km (a.put o.dst v) w';have hevo:Evo S w w':=⟨λb i hS=>bK (l.same b (hs.ld.bnd b i hS) λhb=>(hblk b hb).1 i hS) i,l.shape⟩;have hsub:∀ b i,S b i->S' b i:=l.subs hs.ld.bnd;have hld:Leads w0 S0 K0 w' S':=by refine⟨vV hs.ld.size l.size,l.os.trans hs.ld.os,l.tape.trans hs.ld.tape,l.output.trans hs.ld.output,λb hb hk=>?_,λb us U hb=>?_,l.bnd,λb i hb hS=>hsub b i (hs.ld.sub b i hb hS),λb i hb hk hS=>?_⟩;{have hb':=jJ hb hs.ld.size;rw[l.same b hb' λhx=>by grind];exact hs.ld.same b hb hk};{obtain⟨us',e1,e2⟩:=hs.ld.shape b us U hb;obtain⟨us'',e3,e4⟩:=l.shape b us' U e1;grind};{have hb':=jJ hb hs.ld.size;exact hs.ld.old b i hb hk (l.old b i hb' (λhx=>by grind) hS)}
 
 have hmid:∀ {m x},(m,x)∈(xB (bN ((yC h eaten).map Prod.fst)) (gV ((yC h eaten).map Prod.fst) objs))->(∃ x',(m,x')∈objs/\x=x7 (bN ((yC h eaten).map Prod.fst)) x')/\m∉(yC h eaten).map Prod.fst:=by intro m x hm;obtain⟨x',h1,h2⟩:=wW _ hm;obtain⟨h3,h4⟩:=Wl h1;grind
 have hkin:∀ n x,(n,x)∈kept->h n∈((xB (bN ((yC h eaten).map Prod.fst)) (gV ((yC h eaten).map Prod.fst) objs))).map Prod.fst:=by
  (intro n x hm;have h1:=(hmemo (ZE eaten hm)).1;have h2:h n∉(yC h eaten).map Prod.fst:=by intro hx;obtain⟨⟨m,y⟩,h3,h4⟩:=y9.1 hx;simp only at h4;rw[iL,jQ,iR] at hnodup1;exact hnodup1.2.2 (h n) (y9.2 ⟨_,kZ.2 ⟨n,x,hm,rfl,rfl⟩,rfl⟩) m (y9.2 ⟨_,h3,rfl⟩) h4.symm);exact y9.2 ⟨_,pN (bN ((yC h eaten).map Prod.fst)) (Ur h1 h2),rfl⟩
 have hkin':∀ n x,(n,x)∈kept'->h n∈((xB (bN ((yC h eaten).map Prod.fst)) (gV ((yC h eaten).map Prod.fst) objs))).map Prod.fst:=by intro n x hm;obtain⟨x',h1⟩:=Y7 hnk hm;grind
 have hmnd:((xB (bN ((yC h eaten).map Prod.fst)) (gV ((yC h eaten).map Prod.fst) objs)).map Prod.fst).Nodup:=by simp only[fH];exact (W0 _ _).nodup hs.obj.nd
 have hknd:((yC h kept').map Prod.fst).Nodup:=by grind [bA]
 have hset:∀ {m x},(m,x)∈rJ h (xB (bN ((yC h eaten).map Prod.fst)) (gV ((yC h eaten).map Prod.fst) objs)) kept'->(∃ n o',(n,o')∈kept'/\m=h n/\x=x7 (ren h) o')\/((m,x)∈(xB (bN ((yC h eaten).map Prod.fst)) (gV ((yC h eaten).map Prod.fst) objs))/\m∉(yC h kept').map Prod.fst) :=
  λhm=>Uq hmnd hkin' hknd hm
 have hβk':∀ n x,(n,x)∈kept'->β' n=β (h n):=by intro n x hm;obtain⟨x',h1⟩:=Y7 hnk hm;exact hβk n x' h1
 have hnew:∀ {n o m x},(n,o)∈made->(m,x)∈(xB (bN ((yC h eaten).map Prod.fst)) (gV ((yC h eaten).map Prod.fst) objs))->m≠h n:=λhm hx=>(y5 (hfr hm).2 hx).1;have hkm:∀ {n o m o'},(n,o)∈made->(m,o')∈kept'->h m≠h n:=λhm hx e=>by obtain⟨⟨q,y⟩,q1,q2⟩:=y9.1 (hkin' _ _ hx);exact hnew hm q1 (by rw[<-e];exact q2)
 have hinj:∀ n o m o',(n,o)∈kept'++made->(m,o')∈kept'++made->h n=h m->n=m:=λn o m o' hm hm' e=>by
  (rcases w6.1 hm with h1|h1 <;> rcases w6.1 hm' with h2|h2);{exact n7 hknd h1 h2 e}
  {exact absurd e (hkm h2 h1)};{exact absurd e.symm (hkm h1 h2)};{exact n7 (fW hnd3) h1 h2 e}
 obtain⟨βf,hf1,hf2,hf3,hf4⟩:=MP hinj β β';have hno:∀ {m},m∉(yC h kept').map Prod.fst->m∉(yC h made).map Prod.fst->∀ n o,(n,o)∈kept'++made->h n≠m:=λh1 h2 n o hm e=>by rcases w6.1 hm with h3|h3;{exact h1 (y9.2 ⟨_,kZ.2 ⟨n,o,h3,rfl,rfl⟩,e⟩)};{exact h2 (y9.2 ⟨_,kZ.2 ⟨n,o,h3,rfl,rfl⟩,e⟩)}
 have hL:∀ m,m∉(yC h made).map Prod.fst->βf m=β m:=λm hm=>by by_cases hk:m∈(yC h kept').map Prod.fst;{obtain⟨⟨q,y⟩,q1,q2⟩:=y9.1 hk;obtain⟨n,o,q3,q4,_⟩:=kZ.1 q1;simp only at q2;rw[<-q2,q4,hf1 n o (ZE made q3),hβk' n o q3]};{exact hf3 m (hno hk hm)}
 have hmn:∀ {d},d∈(yC h made).map Prod.fst->∃ n o,(n,o)∈made/\d=h n:=λhd=>by obtain⟨⟨q,y⟩,q1,q2⟩:=y9.1 hd;obtain⟨n,o,q3,q4,_⟩:=kZ.1 q1;simp only at q2;exact⟨n,o,q3,by rw[<-q2,q4]⟩
 have hnblk:∀ {m x' b},(m,x')∈objs->m∉(yC h eaten).map Prod.fst->m∉(yC h kept').map Prod.fst->Own β m x' b->¬Blk (β.ren h) (kept++eaten) b:=by rintro m x' b hm hne hnk' hβ ⟨n,y,hy,hβn⟩;have heq:=hs.obj.inj _ _ _ _ b hm (hmemo hy).1 hβ (rN.1 hβn);rcases w6.1 hy with hy|hy;{rw[bA,hnk,<-bA] at hnk';exact hnk' (y9.2 ⟨_,kZ.2 ⟨n,y,hy,rfl,rfl⟩,heq.symm⟩)};{exact hne (y9.2 ⟨_,kZ.2 ⟨n,y,hy,rfl,rfl⟩,heq.symm⟩)}
 have hall:∀ {m x},(m,x)∈rJ h (xB (bN ((yC h eaten).map Prod.fst)) (gV ((yC h eaten).map Prod.fst) objs)) kept'++yC h made->(∃ n o',(n,o')∈kept'++made/\m=h n/\x=x7 (ren h) o')\/((m,x)∈(xB (bN ((yC h eaten).map Prod.fst)) (gV ((yC h eaten).map Prod.fst) objs))/\m∉(yC h kept').map Prod.fst/\m∉(yC h made).map Prod.fst):=λhm=>by rcases w6.1 hm with h1|h1;{rcases hset h1 with⟨n,o',h2,h3,h4⟩|⟨h2,h3⟩;{exact .inl ⟨n,o',ZE made h2,h3,h4⟩};{refine .inr ⟨h2,h3,λhd=>?_⟩;obtain⟨n,o,q1,q2⟩:=hmn hd;exact hnew q1 h2 q2}};{obtain⟨n,o',h2,h3,h4⟩:=kZ.1 h1;exact .inl ⟨n,o',nQ kept' h2,h3,h4⟩}
 have hownF:∀ {n o b},(n,o)∈kept'++made->Own βf (h n) (x7 (ren h) o) b->Own β' n o b:=λhm hb=>by rcases hb with hb|⟨i,h1,h2⟩;{exact .inl (by rw[<-hf1 _ _ hm];exact hb)};{exact .inr ⟨i,(jX _ _ i).1 h1,by rw[<-hf2 _ _ i hm];exact h2⟩}
 have hownO:∀ {m x b},m∉(yC h kept').map Prod.fst->m∉(yC h made).map Prod.fst->Own βf m x b->Own β m x b:=λh1 h2 hb=>by rcases hb with hb|⟨i,h3,h4⟩;{exact .inl (by rw[<-hf3 _ (hno h1 h2)];exact hb)};{exact .inr ⟨i,h3,by rw[<-hf4 _ i (hno h1 h2)];exact h4⟩}
 have hsim:Sim w0 S0 K0 N (λt=>bN ((yC h eaten).map Prod.fst) (τ t)) (rJ h (xB (bN ((yC h eaten).map Prod.fst)) (gV ((yC h eaten).map Prod.fst) objs)) kept'++yC h made) a w' S' βf:=by
  refine⟨hs.dfr,hs.sz,hld,λt=>?_,⟨?_,?_,?_,?_⟩,?_,?_⟩;{have h1:Rep w' S' β (a.tmps.getD t undef) (bN ((yC h eaten).map Prod.fst) (τ t)):=XD _ ((hs.tmp t).evo hevo hsub);exact h1.free hL λd hd=>by obtain⟨n,o,q1,rfl⟩:=hmn hd;exact (hfr q1).1 t};{rw[jQ,Yz hkin',iR];refine⟨hmnd,fW hnd3,λx hx y hy e=>?_⟩;obtain⟨n,o,q1,q2⟩:=hmn hy;obtain⟨⟨q,z⟩,q3,q4⟩:=y9.1 hx;simp only at q4;exact hnew q1 q3 (by rw[q4,e,q2])};{intro m x hm;rcases hall hm with⟨n,o',h1,rfl,rfl⟩|⟨h1,h2,h3⟩;{obtain⟨g1,g2⟩:=X5 hclo h1;exact BN (L:=bY (kept'++made)) (λk hk=>by obtain⟨y,hy⟩:=We hk;exact hf1 k y hy) g2 (hf1 n o' h1) (λi=>hf2 n o' i h1) (λi=>BM g1) (ho'.at_ n o' h1)};{obtain⟨⟨x',h4,rfl⟩,h5⟩:=hmid h1;have hat:=((hs.obj.at_ m x' h4).evo hevo λb hb=>l.same b (hs.obj.un _ _ b h4 hb).2 (hnblk h4 h5 h2 hb)).mono hsub;exact (hat.map (oK _) λv x hx=>XD _ hx).free hL h3 (λi=>hf4 m i (hno h2 h3)) λd hd=>by obtain⟨n,o,q1,rfl⟩:=hmn hd;exact (y5 (hfr q1).2 h1).2}};{intro m x b hm hβ;rcases hall hm with⟨n,o',h1,rfl,rfl⟩|⟨h1,h2,h3⟩;{obtain⟨g1,g2⟩:=ho'.un n o' b h1 (hownF h1 hβ);exact⟨λi hS=>pJ (g1 i hS),g2⟩};{obtain⟨⟨x',h4,rfl⟩,h5⟩:=hmid h1;have hb:=uG (hownO h2 h3 hβ);obtain⟨q1,q2⟩:=hs.obj.un m x' b h4 hb;exact⟨λi hS=>pJ (q1 i (l.old b i q2 (hnblk h4 h5 h2 hb) hS)),jJ q2 l.size⟩}}
  ·have cross:∀ {n o m x b},(n,o)∈kept'++made->Own β' n o b->(m,x)∈(xB (bN ((yC h eaten).map Prod.fst)) (gV ((yC h eaten).map Prod.fst) objs))->m∉(yC h kept').map Prod.fst->Own β m x b->False:=λhn hb hm hk hb'=>by obtain⟨⟨x',h4,rfl⟩,h5⟩:=hmid hm;have hb'':=uG hb';rcases hmd _ _ _ hn hb with g|g;{have:=(hs.obj.un _ x' _ h4 hb'').2;omega};{exact hnblk h4 h5 hk hb'' g}
   (intro m x m' x' b hm hm' hβ hβ';rcases hall hm with⟨n,o',h1,rfl,rfl⟩|⟨h1,h2,h3⟩ <;> rcases hall hm' with⟨n',o'',h4,rfl,rfl⟩|⟨h4,h5,h6⟩);{rw[ho'.inj _ _ _ _ b h1 h4 (hownF h1 hβ) (hownF h4 hβ')]}
   {exact (cross h1 (hownF h1 hβ) h4 h5 (hownO h5 h6 hβ')).elim};{exact (cross h4 (hownF h4 hβ') h1 h2 (hownO h2 h3 hβ)).elim};{obtain⟨⟨y,h7,rfl⟩,_⟩:=hmid h1;obtain⟨⟨y',h8,rfl⟩,_⟩:=hmid h4;exact hs.obj.inj _ _ _ _ b h7 h8 (uG (hownO h2 h3 hβ)) (uG (hownO h5 h6 hβ'))}
  {intro m x b hm hβ;rcases hall hm with⟨n,o',h1,rfl,rfl⟩|⟨h1,h2,h3⟩;{rcases hmd n o' b h1 (hownF h1 hβ) with g|g;{exact .inl (vV hs.ld.size g)};{exact (hblk b g).2.2}};{obtain⟨⟨x',h4,rfl⟩,h5⟩:=hmid h1;exact hs.own m x' b h4 (uG (hownO h2 h3 hβ))}};{intro m x hm hb;rcases hall hm with⟨n,o',h1,rfl,rfl⟩|⟨h1,h2,h3⟩;{rcases w6.1 h1 with h2|h2;{obtain⟨x',h3⟩:=Y7 hnk h2;rw[hf1 n o' h1,hβk' n o' h2];exact hs.keep _ _ (hmemo (ZE eaten h3)).1 hb};{have:=uQ (hfr h2).2;omega}};{obtain⟨⟨x',h4,rfl⟩,h5⟩:=hmid h1;rw[hf3 m (hno h2 h3)];exact hs.keep m x' h4 hb}}
 have hfin:Rep w' S' βf v (ren h r):=Qi (l:=bY (kept'++made)) (λn hn=>by obtain⟨x,hm⟩:=We hn;exact hf1 n x hm) hrep hnm;exact hk _ _ _ _ hsim hfin
theorem J0 {ps:PS}{o:Oper}{c:Call}{f:Operand}(hop:o.op=.call c)(hcl:c.callee=.value f)(hd:∀ t,o.dst=some t->t<N){K:PS->Prop}{Km:Act->World->Prop}{Q:Exit->Act->World->Prop}(hs:Sim w0 S0 K0 N (zD ps.tmps) ps.objs a w S β) {g:FuncId} {caps:List PV} (hf:ev (zD ps.tmps) f=.fn g caps) {cargs:List PV} {kept eaten:List (Nat×Obj')} {r:PV} {kept' made:List (Nat×Obj')} (hle:LeL (evs (ev (zD ps.tmps)) c.args.toList++caps) (i4 h cargs)) (hso:Sound g cargs kept eaten r kept' made) (hobj:uH h ps.objs (kept++eaten)) (hnd1:ndO (yC h (kept++eaten))=true) (hnd2:ndO (kept++eaten)=true) (hclo:cZ (bY (kept'++made)) (kept'++made)=true) (hnd3:ndO (yC h made)=true) (hfree:aR h (r5 h eaten ps) made=true) (hlv:y4 lv cargs=true) (hlr:lv r=true) (hnm:nmIn (bY (kept'++made)) r=true) (hK:K (put (aK h eaten kept' made ps) o.dst (ren h r))) (hk:∀ ps' a' w' S' β',K ps'->Sim w0 S0 K0 N (zD ps'.tmps) ps'.objs a' w' S' β'->Km a' w'):o.wp Pg a w Km Q:=by
 refine W9 hop hcl hs hf hle hso hobj hnd1 hnd2 hclo hnd3 (λhm=>?_) hlv hlr hnm λw' S' β' v hsim hfin=>?_;{have:=YG hfree hm;simp only[yO,r5,yS] at this;refine⟨λt=>?_,this.2⟩;rw[<-uO _ (oK _)];grind [vY]}
 ·(have e:(λt=>bN ((yC h eaten).map Prod.fst) (zD ps.tmps t))=zD (aK h eaten kept' made ps).tmps:=by funext t;exact (uO _ (oK _) _ _).symm);rw[e] at hsim;exact hk _ _ _ _ _ hK (wU (ps:=aK h eaten kept' made ps) hsim o.dst hd hfin)
theorem Fk:∀ (l:List PV),w8 (λv=>v) l=l
 |[]=>rfl| v::r=>by simp only[w8,Fk r]
theorem Fj:∀ (l:List (PV×(Unit->Nat))),gQ (λv=>v) l=l
 |[]=>rfl| (v,k)::r=>by simp only[gQ,Fj r]
theorem Fh:∀ (l:List (Nat×Obj')),xB (λv=>v) l=l
 |[]=>rfl| (n,o)::r=>by have:=Fh r;cases o <;> simp only[xB,Fk,Fj,this]
theorem V9:∀ {l:List (Nat×Obj')} {n:Nat} {o:Obj'},yK l n=some o->setO l n o=l
 |[],n,o,h=>by cases h
 |(u,x)::r,n,o,h=>by
  simp only[yK] at h;simp only[setO];cases hu:nqb u n with
  |true =>
   simp_all
  |false =>
   rw[hu] at h;simp only;rw[V9 h]
theorem XC:∀ {kept l:List (Nat×Obj')},uH h l kept->rJ h l kept=l
 |[],l,_=>rfl| (n,o)::r,l,H=>by simp only[rJ];rw[V9 H.1.1];exact XC H.2
theorem J1 {o:Oper}{c:Call}{f:Operand}(hop:o.op=.call c)(hcl:c.callee=.value f){Km:Act->World->Prop}{Q:Exit->Act->World->Prop}(hs:Sim w0 S0 K0 N τ objs a w S β) {g:FuncId} {caps:List PV} (hf:ev τ f=.fn g caps) {cargs:List PV} {kept:List (Nat×Obj')} {r:PV} (hle:LeL (evs (ev τ) c.args.toList++caps) (i4 h cargs)) (hso:Sound g cargs kept [] r kept []) (hobj:uH h objs kept) (hnd1:ndO (yC h kept)=true) (hnd2:ndO kept=true) (hclo:cZ (bY kept) kept=true) (hlv:y4 lv cargs=true) (hlr:lv r=true) (hnm:nmIn (bY kept) r=true) (hk:∀ w' S' β' v,Sim w0 S0 K0 N τ objs a w' S' β'->Rep w' S' β' v (ren h r)->Km (a.put o.dst v) w'):o.wp Pg a w Km Q:=by
 refine W9 (eaten:=[]) (made:=[]) hop hcl hs hf hle hso (by grind) (by grind) (by grind) (by grind) rfl (λhm=>by cases hm) hlv hlr (by grind) λw' S' β' v hsim hfin=>?_;have e:rJ h (xB (bN ((yC h []).map Prod.fst)) (gV ((yC h []).map Prod.fst) objs)) kept++yC h []=objs:=by show rJ h (xB (λv=>v) objs) kept++[]=objs;rw[uT,Fh,XC hobj]
 rw[e] at hsim;exact hk _ _ _ _ hsim hfin
end
end Go.Proofs.YtboocdbmnfjomaaGreat
