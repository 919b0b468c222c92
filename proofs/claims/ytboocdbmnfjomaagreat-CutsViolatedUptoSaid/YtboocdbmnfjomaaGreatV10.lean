/- A part of the proof: PmM. -/
import Derived.Test.YtboocdbmnfjomaaGreatV09
set_option linter.all false
namespace Go.Proofs.YtboocdbmnfjomaaGreat
open Go
section
variable {w0:World} {S0:Nat->Nat->Prop} {K0:Nat->Prop} {N:Cx} {τ:Nat->PV} {objs:List (Nat×Obj')} {a:Act} {w w':World} {S S':Nat->Nat->Prop} {β β' βf:Bm} {h:Nat->Nat}
theorem oA {v pv}(r:Rep w S β v (rn0 h pv))(hl:lv0 pv=true):Rep w S (β.ren h) v pv:=by
 cases pv with
 |agg cs=>grind [lv0]| tup cs=>grind [lv0]| fn f cs=>grind [lv0]| ptr m off=>obtain⟨b,hβ,rfl⟩:=jH r;exact .ptr hβ
 |aptr m s i off=>obtain⟨b,hβ,rfl⟩:=jA r;exact .aptr hβ
 |osl m s i len =>
  rcases uT r with⟨hn,ho,hl,aa,rfl⟩|⟨b,cap,vs,T,hβ,hlc,hw,hsz,rfl⟩;{exact .osl0 hn ho hl};{exact .osl hβ hlc hw hsz}
 |nil=>rw[dG r];exact .nil| dptr cs o=>obtain⟨b,o',vals,hS,rfl,hf,hc,hr⟩:=sE r;exact .dptr vals hS hf hc hr
 |nilf=>cases r with|c hf h=>cases hf|nilf=>exact .nilf
 |nilp=>cases r with|c hf h=>cases hf|nilp=>exact .nilp
 |emp=>obtain⟨a,hv⟩:=eZ r;subst hv;exact .emp a
 |_=>exact .c rfl (Xv r rfl)
theorem UJ {v pv}(r:Rep w S β v (rn1 h pv))(hl:lv1 pv=true):Rep w S (β.ren h) v pv:=by
 cases pv with
 |agg cs =>
  obtain⟨vs,rfl,h1,h2⟩:=qZ r;rw[zN] at h1;exact .agg h1 λj hj=>oA (by have:=h2 j (by grind [zN]);rwa [yP _ rfl] at this) (wV (by grind [lv1]) j hj)
 |tup cs =>
  obtain⟨vs,rfl,h1,h2⟩:=dF r;rw[zN] at h1;exact .tup h1 λj hj=>oA (by have:=h2 j (by grind [zN]);rwa [yP _ rfl] at this) (wV (by grind [lv1]) j hj)
 |fn f cs =>
  obtain⟨vs,rfl,h1,h2⟩:=dH r;rw[zN] at h1;exact .fn h1 λj hj=>oA (by have:=h2 j (by grind [zN]);rwa [yP _ rfl] at this) (wV (by grind [lv1]) j hj)
 |_=>exact oA r rfl
theorem UI {v pv}(r:Rep w S β v (ren h pv))(hl:lv pv=true):Rep w S (β.ren h) v pv:=by
 cases pv with
 |agg cs =>
  obtain⟨vs,rfl,h1,h2⟩:=qZ r;rw[zN] at h1;exact .agg h1 λj hj=>UJ (by have:=h2 j (by grind [zN]);rwa [yP _ rfl] at this) (wV (by grind [lv]) j hj)
 |tup cs =>
  obtain⟨vs,rfl,h1,h2⟩:=dF r;rw[zN] at h1;exact .tup h1 λj hj=>UJ (by have:=h2 j (by grind [zN]);rwa [yP _ rfl] at this) (wV (by grind [lv]) j hj)
 |fn f cs =>
  obtain⟨vs,rfl,h1,h2⟩:=dH r;rw[zN] at h1;exact .fn h1 λj hj=>UJ (by have:=h2 j (by grind [zN]);rwa [yP _ rfl] at this) (wV (by grind [lv]) j hj)
 |_=>exact oA r rfl
theorem mL {l:List Nat}(hl':∀ n,n∈l->βf (h n)=β' n){v pv}(r:Rep w S β' v pv)(hn:nm0 l pv=true):Rep w S βf v (rn0 h pv):=by
 cases pv with
 |agg cs=>grind [nm0]| tup cs=>grind [nm0]| fn f cs=>grind [nm0]| ptr m off=>obtain⟨b,hβ,rfl⟩:=jH r;exact .ptr (by grind [vK,nm0])
 |aptr m s i off=>obtain⟨b,hβ,rfl⟩:=jA r;exact .aptr (by grind [vK,nm0])
 |osl m s i len =>
  have e:=hl' _ (vK (by simpa only [nm0] using hn));rcases uT r with⟨hn,ho,hl,aa,rfl⟩|⟨b,cap,vs,T,hβ,hlc,hw,hsz,rfl⟩;{exact .osl0 (by grind) ho hl};{exact .osl (by grind) hlc hw hsz}
 |nil=>rw[dG r];exact .nil| dptr cs o=>obtain⟨b,o',vals,hS,rfl,hf,hc,hr⟩:=sE r;exact .dptr vals hS hf hc hr
 |nilf=>cases r with|c hf h=>cases hf|nilf=>exact .nilf
 |nilp=>cases r with|c hf h=>cases hf|nilp=>exact .nilp
 |emp=>obtain⟨a,hv⟩:=eZ r;subst hv;exact .emp a
 |_=>exact .c rfl (Xv r rfl)
theorem Xx {l:List Nat}(hl':∀ n,n∈l->βf (h n)=β' n){v pv}(r:Rep w S β' v pv)(hn:nm1 l pv=true):Rep w S βf v (rn1 h pv):=by
 cases pv with
 |agg cs =>
  obtain⟨vs,rfl,h1,h2⟩:=qZ r;exact .agg (by grind [zN]) λj hj=>by rw[zN] at hj;rw[yP _ rfl];grind [mL,wV,nm1]
 |tup cs =>
  obtain⟨vs,rfl,h1,h2⟩:=dF r;exact .tup (by grind [zN]) λj hj=>by rw[zN] at hj;rw[yP _ rfl];grind [mL,wV,nm1]
 |fn f cs =>
  obtain⟨vs,rfl,h1,h2⟩:=dH r;exact .fn (by grind [zN]) λj hj=>by rw[zN] at hj;rw[yP _ rfl];grind [mL,wV,nm1]
 |_=>exact mL hl' r hn
theorem UH {l:List Nat}(hl':∀ n,n∈l->βf (h n)=β' n){v pv}(r:Rep w S β' v pv)(hn:nmIn l pv=true):Rep w S βf v (ren h pv):=by
 cases pv with
 |agg cs =>
  obtain⟨vs,rfl,h1,h2⟩:=qZ r;exact .agg (by grind [zN]) λj hj=>by rw[zN] at hj;rw[yP _ rfl];grind [Xx,wV,nmIn]
 |tup cs =>
  obtain⟨vs,rfl,h1,h2⟩:=dF r;exact .tup (by grind [zN]) λj hj=>by rw[zN] at hj;rw[yP _ rfl];grind [Xx,wV,nmIn]
 |fn f cs =>
  obtain⟨vs,rfl,h1,h2⟩:=dH r;exact .fn (by grind [zN]) λj hj=>by rw[zN] at hj;rw[yP _ rfl];grind [Xx,wV,nmIn]
 |_=>exact mL hl' r hn
theorem Vx (n:Nat):∀ {cs:List PV},yX iD cs=true->wL n cs=true
 |[],_=>rfl| c::cs,h=>by simp only[yX,xA] at h;simp only[wL,yX,xA];exact⟨by cases c <;> simp_all [iD,qT,xN,rf0],Vx n h.2⟩
theorem Yb {n:Nat}(hn:n<1000000):∀ {l:List (Nat×Obj')},(∀ m o,(m,o)∈l->m≠n/\bE n o)->xV n l=true
 |[],_=>by grind [xV,nlt]| (m,o1)::r,h=>by
  (have h1:=h m _ vH;have h2:=Yb hn (l:=r) λm o hm=>h m o (w6 _ hm);have e:(!(nqb m n))=true:=by grind [Ha]);cases o1 with
  |box cs=>simp only[xV,xA];exact⟨⟨e,h1.2⟩,h2⟩| arr s els=>simp only[xV,xA];grind| log s els=>simp only[xV,xA];grind| lent s els=>simp only[xV,xA];grind| mat s rows hs=>simp only[xV,xA];exact⟨⟨e,h1.2⟩,h2⟩
theorem Xi:∀ (l:List Nat) {v pv},Rep w S β v pv->Rep w S β v (bG l pv)
 |[],v,pv,h=>h| n::r,v,pv,h=>Xi r (YC h)
theorem eO:∀ (l:List Nat),bG l .any=.any
 |[]=>rfl| n::r=>eO r
theorem XO:∀ {l:List Nat} {objs:List (Nat×Obj')} {m:Nat} {o:Obj'},(m,o)∈gJ l objs->(m,o)∈objs/\m∉l
 |[],objs,m,o,h=>⟨h,by simp⟩| n::r,objs,m,o,h=>by obtain⟨h1,h2⟩:=XO (l:=r) h;grind [wT]
theorem Wz:∀ (l:List Nat) (objs:List (Nat×Obj')),((gJ l objs).map Prod.fst).Sublist (objs.map Prod.fst)
 |[],objs=>List.Sublist.refl _| n::r,objs=>(Wz r _).trans (mZ _ _)
theorem VT:∀ {l:List Nat} {objs:List (Nat×Obj')} {m:Nat} {o:Obj'},(m,o)∈objs->m∉l->(m,o)∈gJ l objs
 |[],objs,m,o,h,_=>h| n::r,objs,m,o,h,hn=>by simp only[yS,not_or] at hn;exact VT (l:=r) (pA h hn.1) hn.2
theorem kR:∀ {l:List (Nat×Obj')} {m:Nat} {x:Obj'},(m,x)∈yC h l↔∃ n o,(n,o)∈l/\m=h n/\x=xY (ren h) o
 |[],m,x=>by simp[yC]| (n,y)::r,m,x=>by simp only[yC,yS,kR (l:=r)];constructor;{rintro (e|⟨k,o,hk,e1,e2⟩);{cases e;exact⟨n,y,.inl rfl,rfl,rfl⟩};grind};grind
theorem lT:∀ (l k:List (Nat×Obj')),yC h (l++k)=yC h l++yC h k
 |[],k=>rfl| (n,x)::r,k=>by simp[yC,lT r k]
theorem cM:∀ (l:List (Nat×Obj')),(yC h l).map Prod.fst=(l.map Prod.fst).map h
 |[]=>rfl| (n,x)::r=>by simp[yC,cM r]
theorem mT:∀ {l objs:List (Nat×Obj')},uA h objs l->∀ {n o},(n,o)∈l->(h n,xY (ren h) o)∈objs/\bK o=true
 |(m,x)::r,objs,H,n,o,hm=>by simp only[yS] at hm;rcases hm with hm|hm;{cases hm;exact⟨xH H.1.1,H.1.2⟩};{exact mT H.2 hm}
theorem XE {L:List Nat}:∀ {l:List (Nat×Obj')},cK L l=true->∀ {n o},(n,o)∈l->bK o=true/\J8 L o=true
 |(m,x)::r,H,n,o,hm=>by simp only[cK,xA] at H;simp only[yS] at hm;rcases hm with hm|hm;{grind};{exact XE H.2 hm}
theorem WT {p:PV->Bool}:∀ {hs:List (PV×(Unit->Nat))},B7 p hs=true->∀ {v k},(v,k)∈hs->p v=true
 |(u,j)::r,H,v,k,hm=>by simp only[B7,xA] at H;rcases yS.1 hm with hm|hm;{grind};{exact WT H.2 hm}
theorem H9 {n:Nat}{o:Obj'}(ho:bK o=true)(hat:ObjAt w S β (h n) (xY (ren h) o)):ObjAt w S (β.ren h) n o:=by
 cases o with
 |box cs =>
  obtain⟨b,vs,T,e1,e2,e3,e4⟩:=hat;rw[zN] at e3;exact⟨b,vs,T,e1,e2,e3,λj hj=>UI (by have:=e4 j (by grind [zN]);rwa [yP _ rfl] at this) (wV (by grind [bK]) j hj)⟩
 |arr s els=>exact hat| log s els=>cases ho
 |lent s els=>cases ho
 |mat s rows hs =>
  obtain⟨hp,h5,h6⟩:=hat;have hr:=jP (ren h) (.mat s rows hs);refine⟨?_,λi j b hi hj=>h5 i j b ((hr i).2 hi) ((hr j).2 hj),λi b hi=>h6 i b ((hr i).2 hi)⟩;rcases hp with⟨e1,e2,e3⟩|⟨b,vs,T,h1,h2,h3,h4,h7⟩
  ·refine .inl ⟨e1,e2,?_⟩;cases hs with
   |nil=>rfl| cons x r=>cases e3
  {exact .inr ⟨b,vs,T,h1,h2,h3,λv k hk=>⟨(h4 _ k (nR (ren h) hk)).1,UI (h4 _ k (nR (ren h) hk)).2 (WT (by grind [bK]) hk)⟩,λi hi=>h7 i ((hr i).2 hi)⟩}
theorem Cz {L:List Nat}{n:Nat}{o:Obj'}(hL:∀ k,k∈L->βf (h k)=β' k)(hn:J8 L o=true)(h0:βf (h n)=β' n)(h1:∀ i,βf.r (h n) i=β'.r n i)(hpub:∀ i,¬j3 o i)(hat:ObjAt w S β' n o):ObjAt w S βf (h n) (xY (ren h) o):=by
 cases o with
 |box cs =>
  obtain⟨b,vs,T,e1,e2,e3,e4⟩:=hat;exact⟨b,vs,T,by grind,e2,by grind [zN],λj hj=>by rw[zN] at hj;rw[yP _ rfl];grind [UH,wV,J8]⟩
 |arr s els =>
  rcases hat with⟨e0,e⟩|⟨b,vs,T,e1,rest⟩;{exact .inl ⟨by grind,e⟩};{exact .inr ⟨b,vs,T,by grind,rest⟩}
 |log s els =>
  rcases hat with⟨e0,e⟩|⟨b,vs,T,e1,rest⟩;{exact .inl ⟨by grind,e⟩};{exact .inr ⟨b,vs,T,by grind,rest⟩}
 |lent s els =>
  obtain⟨hat,hst⟩:=hat;refine⟨?_,λb hb i hi=>hst b (by grind) i hi⟩;rcases hat with⟨e0,e⟩|⟨b,vs,T,e1,rest⟩;{exact .inl ⟨by grind,e⟩};{exact .inr ⟨b,vs,T,by grind,rest⟩}
 |mat s rows hs =>
  obtain⟨hp,h5,h6⟩:=hat;have hr:=jP (ren h) (.mat s rows hs);refine⟨?_,λi j b hi hj e1 e2=>h5 i j b ((hr i).1 hi) ((hr j).1 hj) (by grind) (by grind),λi b hi e1=>by rw[h0];exact h6 i b ((hr i).1 hi) (by grind)⟩;rcases hp with⟨e1,e2,e3⟩|⟨b,vs,T,g1,g2,g3,g4,g7⟩;{subst e3;exact .inl ⟨by grind,e2,rfl⟩};{refine .inr ⟨b,vs,T,by grind,g2,g3,λv k hk=>?_,λi hi=>by rw[h1];exact g7 i ((hr i).1 hi)⟩;obtain⟨v',hk',rfl⟩:=oN _ hk;grind [UH,WT,J8]}
theorem Cy {o:Obj'}(hc:bK o=true){i:Nat}:¬j3 o i:=by
 cases o with
 |box cs=>exact id| arr s els=>exact id| log s els=>cases hc
 |lent s els=>cases hc
 |mat s rows hs=>exact id
theorem rF {n:Nat}{o:Obj'}{b:Nat}:Own (β.ren h) n o b↔Own β (h n) (xY (ren h) o) b:=by constructor;{rintro (e|⟨i,h1,h2⟩);{exact .inl e};{exact .inr ⟨i,(jP _ o i).2 h1,h2⟩}};{rintro (e|⟨i,h1,h2⟩);{exact .inl e};{exact .inr ⟨i,(jP _ o i).1 h1,h2⟩}}
theorem Yk {ps:PS}:∀ {l:List (Nat×Obj')},aK h ps l=true->∀ {n o},(n,o)∈l->yO (h n) ps=true
 |(m,x)::r,H,n,o,hm=>by simp only[aK,xA] at H;simp only[yS] at hm;rcases hm with hm|hm;{grind};{exact Yk H.2 hm}
theorem XK:∀ {l:List (Nat×Obj')} {n:Nat},n∈bR l->∃ o,(n,o)∈l
 |(m,x)::r,n,hm=>by simp only[bR,yS] at hm;rcases hm with hm|hm;{grind};{obtain⟨o,ho⟩:=XK hm;grind}
theorem Gn:∀ {l:List Nat},(l.map h).Nodup->∀ {n m},n∈l->m∈l->h n=h m->n=m
 |x::r,hnd,n,m,hn,hm,e=>by simp only[kK,WX] at hnd;simp only[yS] at hn hm;rcases hn with rfl|hn;{grind};{rcases hm with rfl|hm;{grind};{exact Gn hnd.2 hn hm e}}
theorem nP {l:List (Nat×Obj')}(hnd:((yC h l).map Prod.fst).Nodup){n m:Nat}{o o':Obj'}(hn:(n,o)∈l)(hm:(m,o')∈l)(e:h n=h m):n=m:=by rw[cM] at hnd;have h1:n∈l.map Prod.fst:=y9.2 ⟨_,hn,rfl⟩;have h2:m∈l.map Prod.fst:=y9.2 ⟨_,hm,rfl⟩;grind [Gn]
section
variable {L:List Nat}
theorem Rep.free0 (hL:∀ m,m∉L->βf m=β m){v pv}(r:Rep w S β v pv)(hf:∀ d,d∈L->rf0 d pv=true):Rep w S βf v pv:=by
 have key:∀ m,(∀ d,d∈L->(!(nqb m d))=true)->βf m=β m:=λm hm=>hL m λhin=>by have:=hm m hin;simp_all
 cases r with
 |c hc h=>exact .c hc h| nil=>exact .nil| agg hl h =>
  cases L with
  |nil=>exact (by have e:∀ m,βf m=β m:=λm=>hL m (by simp);exact .agg hl λj hj=>(h j hj).place e)| cons d r=>grind [List.mem_cons_self,rf0]
 |tup hl h =>
  cases L with
  |nil=>exact (by have e:∀ m,βf m=β m:=λm=>hL m (by simp);exact .tup hl λj hj=>(h j hj).place e)| cons d r=>grind [List.mem_cons_self,rf0]
 |fn hl h =>
  cases L with
  |nil=>exact (by have e:∀ m,βf m=β m:=λm=>hL m (by simp);exact .fn hl λj hj=>(h j hj).place e)| cons d r=>grind [List.mem_cons_self,rf0]
 |ptr hβ=>exact .ptr (by grind [rf0])| aptr hβ=>exact .aptr (by grind [rf0])| dptr vals hSb hf' hc hr=>exact .dptr vals hSb hf' hc hr| osl hβ hlc hb hsz=>exact .osl (by grind [rf0]) hlc hb hsz| nilf=>exact .nilf| nilp=>exact .nilp| emp a=>exact .emp a| osl0 hβ ho hl=>exact .osl0 (by grind [rf0]) ho hl
theorem cY {p:Nat->PV->Bool}(hp:∀ d,p d .any=true){cs:List PV}(hf:∀ d,d∈L->yX (p d) cs=true)(j:Nat):∀ d,d∈L->p d (cs.getD j .any)=true:=λd hd=>xS (hp d) (hf d hd) j
theorem Rep.free1 (hL:∀ m,m∉L->βf m=β m){v pv}(r:Rep w S β v pv)(hf:∀ d,d∈L->rf1 d pv=true):Rep w S βf v pv:=by
 cases r with
 |agg hl h=>exact .agg hl λj hj=>(h j hj).free0 hL (cY (λ_=>rfl) (λd hd=>by grind [rf1]) j)| tup hl h=>exact .tup hl λj hj=>(h j hj).free0 hL (cY (λ_=>rfl) (λd hd=>by grind [rf1]) j)| fn hl h=>exact .fn hl λj hj=>(h j hj).free0 hL (cY (λ_=>rfl) (λd hd=>by grind [rf1]) j)| c hc h=>exact .c hc h| nil=>exact .nil| ptr hβ=>exact (Rep.ptr hβ).free0 hL hf| aptr hβ=>exact (Rep.aptr hβ).free0 hL hf| dptr vals hSb hf' hc hr=>exact .dptr vals hSb hf' hc hr| osl hβ hlc hb hsz=>exact (Rep.osl hβ hlc hb hsz).free0 hL hf| nilf=>exact .nilf| nilp=>exact .nilp| emp a=>exact .emp a| osl0 hβ ho hl=>exact (Rep.osl0 hβ ho hl).free0 hL hf
theorem Rep.free (hL:∀ m,m∉L->βf m=β m){v pv}(r:Rep w S β v pv)(hf:∀ d,d∈L->xN d pv=true):Rep w S βf v pv:=by
 cases r with
 |agg hl h=>exact .agg hl λj hj=>(h j hj).free1 hL (cY (λ_=>rfl) (λd hd=>by grind [xN]) j)| tup hl h=>exact .tup hl λj hj=>(h j hj).free1 hL (cY (λ_=>rfl) (λd hd=>by grind [xN]) j)| fn hl h=>exact .fn hl λj hj=>(h j hj).free1 hL (cY (λ_=>rfl) (λd hd=>by grind [xN]) j)| c hc h=>exact .c hc h| nil=>exact .nil| ptr hβ=>exact (Rep.ptr hβ).free0 hL hf| aptr hβ=>exact (Rep.aptr hβ).free0 hL hf| dptr vals hSb hf' hc hr=>exact .dptr vals hSb hf' hc hr| osl hβ hlc hb hsz=>exact (Rep.osl hβ hlc hb hsz).free0 hL hf| nilf=>exact .nilf| nilp=>exact .nilp| emp a=>exact .emp a| osl0 hβ ho hl=>exact (Rep.osl0 hβ ho hl).free0 hL hf
theorem ObjAt.free {m:Nat}{o:Obj'}(hL:∀ m,m∉L->βf m=β m)(hm:m∉L)(hr:∀ i,βf.r m i=β.r m i)(hf:∀ d,d∈L->bE d o)(hat:ObjAt w S β m o):ObjAt w S βf m o:=by
 have e:=hL m hm;have hrow:∀ {s els},RowAt w S β m s els->RowAt w S βf m s els:=λh=>by rcases h with⟨e0,e1⟩|⟨b,vs,T,e1,rest⟩;{exact .inl ⟨by grind,e1⟩};{exact .inr ⟨b,vs,T,by grind,rest⟩}
 cases o with
 |box cs =>
  obtain⟨b,vs,T,e1,e2,e3,e4⟩:=hat;exact⟨b,vs,T,by grind,e2,e3,λj hj=>(e4 j hj).free hL (cY (p:=xN) (λ_=>rfl) (λd hd=>hf d hd) j)⟩
 |arr s els=>exact hrow hat| log s els=>exact hrow hat| lent s els=>exact⟨hrow hat.1,λb hb i hi=>hat.2 b (by grind) i hi⟩| mat s rows hs =>
  obtain⟨hp,h5,h6⟩:=hat;refine⟨?_,λi j b hi hj e1 e2=>h5 i j b hi hj (by grind) (by grind),λi b hi e1=>by grind⟩;rcases hp with⟨e1,e2,e3⟩|⟨b,vs,T,g1,g2,g3,g4,g7⟩;{grind};{exact .inr ⟨b,vs,T,by grind,g2,g3,λv k hk=>⟨(g4 v k hk).1,(g4 v k hk).2.free hL λd hd=>aC (hf d hd) hk⟩,λi hi=>by grind⟩}
end
theorem VS:∀ {k l:List (Nat×Obj')} {m:Nat} {o:Obj'},(l.map Prod.fst).Nodup->(∀ n x,(n,x)∈k->h n∈l.map Prod.fst)->((yC h k).map Prod.fst).Nodup->(m,o)∈rB h l k ->(∃ n o',(n,o')∈k/\m=h n/\o=xY (ren h) o')\/((m,o)∈l/\m∉(yC h k).map Prod.fst)
 |[],l,m,o,hnd,hin,hk,hm=>.inr ⟨hm,by simp[yC]⟩| (n,x)::r,l,m,o,hnd,hin,hk,hm=>by have hn:=hin n x vH;simp only[yC,kK,WX] at hk;simp only[rB] at hm;have hnm:(setO l (h n) (xY (ren h) x)).map Prod.fst=l.map Prod.fst:=uN hn;rcases VS (k:=r) (by grind) (λk y hk=>by grind) hk.2 hm with⟨k,y,h1,h2⟩|⟨h1,h2⟩;{grind};{rcases wF hnd hn h1 with⟨rfl,rfl⟩|⟨h3,h4⟩;{grind};{exact .inr ⟨h4,by simp only[yC,kK,yS,not_or];grind⟩}}
theorem Yf:∀ {k l:List (Nat×Obj')},(∀ n x,(n,x)∈k->h n∈l.map Prod.fst)->(rB h l k).map Prod.fst=l.map Prod.fst
 |[],l,_=>rfl| (n,x)::r,l,hin=>by have hn:=hin n x vH;have hnm:(setO l (h n) (xY (ren h) x)).map Prod.fst=l.map Prod.fst:=uN hn;simp only[rB];rw[Yf (k:=r) (λk y hk=>by grind),hnm]
theorem YM {l k:List (Nat×Obj')}(e:l.map Prod.fst=k.map Prod.fst){n:Nat}{o:Obj'}(hm:(n,o)∈l):∃ o',(n,o')∈k:=by
 have h1:n∈k.map Prod.fst:=by grind
 grind
theorem VM {f:PV->PV}{o:Obj'}(hc:bK o=true){i:Nat}:¬j3 (xY f o) i:=by
 cases o with
 |box cs=>exact id| arr s els=>exact id| log s els=>cases hc
 |lent s els=>cases hc
 |mat s rows hs=>exact id
theorem ObjAt.map {f:PV->PV}{m:Nat}{o:Obj'}(hf:f .any=.any)(hr:∀ v x,Rep w S β v x->Rep w S β v (f x))(h:ObjAt w S β m o):ObjAt w S β m (xY f o):=by
 cases o with
 |box cs =>
  obtain⟨b,vs,T,e1,e2,e3,e4⟩:=h;exact⟨b,vs,T,e1,e2,by grind [zN],λj hj=>by grind [zN,yP]⟩
 |arr s els=>exact h| log s els=>exact h| lent s els=>exact h| mat s rows hs=>exact MatAt.map h (λ_ _ h=>h) λv x k _ hv=>hr v x hv
theorem oC {f:PV->PV}{n:Nat}(hf:∀ v,xN n (f v)=true):∀ hs:List (PV×(Unit->Nat)),sH n (gG f hs)=true
 |[]=>rfl| (v,k)::r=>by simp only[gG,sH,hf,oC hf r];rfl
theorem Y8 {c:PV}(hc:iD c=true):ren h c=c/\lv c=true/\∀ l,nmIn l c=true:=by cases c <;> simp[iD,qT] at hc <;> exact⟨rfl,rfl,λ_=>rfl⟩
theorem WF {o:Obj'}(hc:tG o=true):xY (ren h) o=o:=by
 cases o with
 |box cs =>
  show Obj'.box (wW (ren h) cs)=_;have:∀ l:List PV,yX iD l=true->wW (ren h) l=l:=by
   intro l;induction l with
   |nil=>intro _;rfl
   |cons c r ih=>intro hl;simp only[yX,xA] at hl;grind [wW,Y8]
  rw[this cs hc]
 |mat s rows hs =>
  cases hs with
  |nil=>rfl| cons x r=>cases hc
 |_=>rfl
theorem Yn {o:Obj'}(hc:tG o=true):bK o=true:=by
 cases o with
 |box cs =>
  have:∀ l:List PV,yX iD l=true->yX lv l=true:=by
   intro l;induction l with
   |nil=>intro _;rfl
   |cons c r ih=>intro hl;simp only[yX,xA] at hl ⊢;exact⟨(Y8 (h:=id) hl.1).2.1,ih hl.2⟩
  exact this cs hc
 |arr s els=>rfl| log s els=>cases hc
 |lent s els=>cases hc
 |mat s rows hs =>
  cases hs with
  |nil=>rfl| cons x r=>cases hc
theorem FT {o:Obj'}{l:List Nat}(hc:tG o=true):J8 l o=true:=by
 cases o with
 |box cs =>
  have:∀ k:List PV,yX iD k=true->yX (nmIn l) k=true:=by
   intro k;induction k with
   |nil=>intro _;rfl
   |cons c r ih=>intro hl;simp only[yX,xA] at hl ⊢;exact⟨(Y8 (h:=id) hl.1).2.2 l,ih hl.2⟩
  exact this cs hc
 |mat s rows hs =>
  cases hs with
  |nil=>rfl| cons x r=>cases hc
 |_=>rfl
theorem P5 {l:List (Nat×Obj')}(hinj:∀ n o m o',(n,o)∈l->(m,o')∈l->h n=h m->n=m)(β β':Bm):∃ βf:Bm,(∀ n o,(n,o)∈l->βf (h n)=β' n)/\(∀ n o i,(n,o)∈l->βf.r (h n) i=β'.r n i) /\ (∀ m,(∀ n o,(n,o)∈l->h n≠m)->βf m=β m)/\∀ m i,(∀ n o,(n,o)∈l->h n≠m)->βf.r m i=β.r m i:=by
 classical
 refine⟨⟨λm=>if e:∃ n o,(n,o)∈l/\h n=m then β' (Classical.choose e) else β m,λm i=>if e:∃ n o,(n,o)∈l/\h n=m then β'.r (Classical.choose e) i else β.r m i⟩,λn o hm=>?_,λn o i hm=>?_,λm hno=>?_,λm i hno=>?_⟩;{have e:∃ k o,(k,o)∈l/\h k=h n:=⟨n,o,hm,rfl⟩;grind};{have e:∃ k o,(k,o)∈l/\h k=h n:=⟨n,o,hm,rfl⟩;grind}
 all_goals grind
theorem WH {o:Oper}{c:Call}{f:Operand}(hop:o.op=.call c)(hcl:c.callee=.value f){Km:Act->World->Prop}{Q:Exit->Act->World->Prop}(hs:Sim w0 S0 K0 N τ objs a w S β) {g:FuncId} {caps:List PV} (hf:ev τ f=.fn g caps) {cargs:List PV} {kept eaten:List (Nat×Obj')} {r:PV} {kept' made:List (Nat×Obj')} (hle:LeL (evs (ev τ) c.args.toList++caps) (iJ h cargs)) (hso:Sound g cargs kept eaten r kept' made) (hobj:uA h objs (kept++eaten)) (hnd1:ndO (yC h (kept++eaten))=true) (hnd2:ndO (kept++eaten)=true) (hclo:cK (bR (kept'++made)) (kept'++made)=true) (hnd3:ndO (yC h made)=true) (hfr:∀ {n o},(n,o)∈made->(∀ t,xN (h n) (bG ((yC h eaten).map Prod.fst) (τ t))=true)/\xV (h n) (y6 (bG ((yC h eaten).map Prod.fst)) (gJ ((yC h eaten).map Prod.fst) objs))=true) (hlv:yX lv cargs=true) (hlr:lv r=true) (hnm:nmIn (bR (kept'++made)) r=true) (hk:∀ w' S' β' v,Sim w0 S0 K0 N (λt=>bG ((yC h eaten).map Prod.fst) (τ t)) (rB h (y6 (bG ((yC h eaten).map Prod.fst)) (gJ ((yC h eaten).map Prod.fst) objs)) kept'++yC h made) a w' S' β'->Rep w' S' β' v (ren h r)->Km (a.put o.dst v) w'):o.wp Pg a w Km Q:=by
 have hfv:=hs.eval f;rw[hf] at hfv;obtain⟨vs,hv,hl,hr⟩:=dH hfv;have hargs:=((YP (λx=>hs.eval x) c.args.toList).append ⟨hl,hr⟩).le hle;have hnodup1:=fO hnd1;have hmemo:∀ {n x},(n,x)∈kept++eaten->(h n,xY (ren h) x)∈objs/\bK x=true:=λhm=>mT hobj hm;have hblk:∀ b,Blk (β.ren h) (kept++eaten) b->(∀ i,¬S b i)/\b<w.heap.size/\(w0.heap.size<=b\/K0 b):=by rintro b ⟨n,x,hm,hβ⟩;obtain⟨h1,h2⟩:=hmemo hm;have hβ':=rF.1 hβ;exact⟨λi hS=>VM h2 ((hs.obj.un _ _ b h1 hβ').1 i hS),(hs.obj.un _ _ b h1 hβ').2,hs.own _ _ b h1 hβ'⟩
 have hobjs:ObjsAt w S (β.ren h) (kept++eaten):=⟨fO hnd2,λn x hm=>H9 (hmemo hm).2 (hs.obj.at_ _ _ (hmemo hm).1),λn x b hm hβ=>⟨λi hS=>absurd hS ((hblk b ⟨n,x,hm,hβ⟩).1 i),(hblk b ⟨n,x,hm,hβ⟩).2.1⟩,
  λn x m y b hm hm' hβ hβ'=>nP hnodup1 hm hm' (hs.obj.inj _ _ _ _ b (hmemo hm).1 (hmemo hm').1 (rF.1 hβ) (rF.1 hβ'))⟩
 have hlen:(iJ h cargs).length=cargs.length:=zN _ _;unfold Oper.wp;rw[mH hop hcl hv hso.isf,Oper.upon_enter];refine (hso.go w S (β.ren h) _ hs.ld.bnd hobjs (by rw[hargs.1,hlen]) (λj hj=>UI (by have:=hargs.2 j oM;rwa [iJ,yP _ rfl] at this) (wV hlv j hj))).mono ?_;rintro e w' ⟨v,S',β',rfl,l,hrep,ho',hnk,hβk,hmd⟩;show Km (a.put o.dst v) w';have hevo:Evo S w w':=⟨λb i hS=>rT (l.same b (hs.ld.bnd b i hS) λhb=>(hblk b hb).1 i hS) i,l.shape⟩;have hsub:∀ b i,S b i->S' b i:=l.subs hs.ld.bnd;have hld:Leads w0 S0 K0 w' S':=by refine⟨vF hs.ld.size l.size,l.os.trans hs.ld.os,l.tape.trans hs.ld.tape,l.output.trans hs.ld.output,λb hb hk=>?_,λb us U hb=>?_,l.bnd,λb i hb hS=>hsub b i (hs.ld.sub b i hb hS),λb i hb hk hS=>?_⟩;{have hb':=f7 hb hs.ld.size;rw[l.same b hb' λhx=>by grind];exact hs.ld.same b hb hk};{obtain⟨us',e1,e2⟩:=hs.ld.shape b us U hb;obtain⟨us'',e3,e4⟩:=l.shape b us' U e1;grind};{have hb':=f7 hb hs.ld.size;exact hs.ld.old b i hb hk (l.old b i hb' (λhx=>by grind) hS)}
 
 have hmid:∀ {m x},(m,x)∈(y6 (bG ((yC h eaten).map Prod.fst)) (gJ ((yC h eaten).map Prod.fst) objs))->(∃ x',(m,x')∈objs/\x=xY (bG ((yC h eaten).map Prod.fst)) x')/\m∉(yC h eaten).map Prod.fst:=by intro m x hm;obtain⟨x',h1,h2⟩:=wR _ hm;obtain⟨h3,h4⟩:=XO h1;grind
 have hkin:∀ n x,(n,x)∈kept->h n∈((y6 (bG ((yC h eaten).map Prod.fst)) (gJ ((yC h eaten).map Prod.fst) objs))).map Prod.fst:=by
  (intro n x hm;have h1:=(hmemo (Zk eaten hm)).1;have h2:h n∉(yC h eaten).map Prod.fst:=by intro hx;obtain⟨⟨m,y⟩,h3,h4⟩:=y9.1 hx;simp only at h4;rw[lT,qS,l9] at hnodup1;exact hnodup1.2.2 (h n) (y9.2 ⟨_,kR.2 ⟨n,x,hm,rfl,rfl⟩,rfl⟩) m (y9.2 ⟨_,h3,rfl⟩) h4.symm);exact y9.2 ⟨_,r9 (bG ((yC h eaten).map Prod.fst)) (VT h1 h2),rfl⟩
 have hkin':∀ n x,(n,x)∈kept'->h n∈((y6 (bG ((yC h eaten).map Prod.fst)) (gJ ((yC h eaten).map Prod.fst) objs))).map Prod.fst:=by intro n x hm;obtain⟨x',h1⟩:=YM hnk hm;grind
 have hmnd:((y6 (bG ((yC h eaten).map Prod.fst)) (gJ ((yC h eaten).map Prod.fst) objs)).map Prod.fst).Nodup:=by simp only[gW];exact (Wz _ _).nodup hs.obj.nd
 have hknd:((yC h kept').map Prod.fst).Nodup:=by grind [cM]
 have hset:∀ {m x},(m,x)∈rB h (y6 (bG ((yC h eaten).map Prod.fst)) (gJ ((yC h eaten).map Prod.fst) objs)) kept'->(∃ n o',(n,o')∈kept'/\m=h n/\x=xY (ren h) o')\/((m,x)∈(y6 (bG ((yC h eaten).map Prod.fst)) (gJ ((yC h eaten).map Prod.fst) objs))/\m∉(yC h kept').map Prod.fst) :=
  λhm=>VS hmnd hkin' hknd hm
 have hβk':∀ n x,(n,x)∈kept'->β' n=β (h n):=by intro n x hm;obtain⟨x',h1⟩:=YM hnk hm;exact hβk n x' h1
 have hnew:∀ {n o m x},(n,o)∈made->(m,x)∈(y6 (bG ((yC h eaten).map Prod.fst)) (gJ ((yC h eaten).map Prod.fst) objs))->m≠h n:=λhm hx=>(yY (hfr hm).2 hx).1;have hkm:∀ {n o m o'},(n,o)∈made->(m,o')∈kept'->h m≠h n:=λhm hx e=>by obtain⟨⟨q,y⟩,q1,q2⟩:=y9.1 (hkin' _ _ hx);exact hnew hm q1 (by rw[<-e];exact q2)
 have hinj:∀ n o m o',(n,o)∈kept'++made->(m,o')∈kept'++made->h n=h m->n=m:=λn o m o' hm hm' e=>by
  (rcases wZ.1 hm with h1|h1 <;> rcases wZ.1 hm' with h2|h2);{exact nP hknd h1 h2 e}
  {exact absurd e (hkm h2 h1)};{exact absurd e.symm (hkm h1 h2)};{exact nP (fO hnd3) h1 h2 e}
 obtain⟨βf,hf1,hf2,hf3,hf4⟩:=P5 hinj β β';have hno:∀ {m},m∉(yC h kept').map Prod.fst->m∉(yC h made).map Prod.fst->∀ n o,(n,o)∈kept'++made->h n≠m:=λh1 h2 n o hm e=>by rcases wZ.1 hm with h3|h3;{exact h1 (y9.2 ⟨_,kR.2 ⟨n,o,h3,rfl,rfl⟩,e⟩)};{exact h2 (y9.2 ⟨_,kR.2 ⟨n,o,h3,rfl,rfl⟩,e⟩)}
 have hL:∀ m,m∉(yC h made).map Prod.fst->βf m=β m:=λm hm=>by by_cases hk:m∈(yC h kept').map Prod.fst;{obtain⟨⟨q,y⟩,q1,q2⟩:=y9.1 hk;obtain⟨n,o,q3,q4,_⟩:=kR.1 q1;simp only at q2;rw[<-q2,q4,hf1 n o (Zk made q3),hβk' n o q3]};{exact hf3 m (hno hk hm)}
 have hmn:∀ {d},d∈(yC h made).map Prod.fst->∃ n o,(n,o)∈made/\d=h n:=λhd=>by obtain⟨⟨q,y⟩,q1,q2⟩:=y9.1 hd;obtain⟨n,o,q3,q4,_⟩:=kR.1 q1;simp only at q2;exact⟨n,o,q3,by rw[<-q2,q4]⟩
 have hnblk:∀ {m x' b},(m,x')∈objs->m∉(yC h eaten).map Prod.fst->m∉(yC h kept').map Prod.fst->Own β m x' b->¬Blk (β.ren h) (kept++eaten) b:=by rintro m x' b hm hne hnk' hβ ⟨n,y,hy,hβn⟩;have heq:=hs.obj.inj _ _ _ _ b hm (hmemo hy).1 hβ (rF.1 hβn);rcases wZ.1 hy with hy|hy;{rw[cM,hnk,<-cM] at hnk';exact hnk' (y9.2 ⟨_,kR.2 ⟨n,y,hy,rfl,rfl⟩,heq.symm⟩)};{exact hne (y9.2 ⟨_,kR.2 ⟨n,y,hy,rfl,rfl⟩,heq.symm⟩)}
 have hall:∀ {m x},(m,x)∈rB h (y6 (bG ((yC h eaten).map Prod.fst)) (gJ ((yC h eaten).map Prod.fst) objs)) kept'++yC h made->(∃ n o',(n,o')∈kept'++made/\m=h n/\x=xY (ren h) o')\/((m,x)∈(y6 (bG ((yC h eaten).map Prod.fst)) (gJ ((yC h eaten).map Prod.fst) objs))/\m∉(yC h kept').map Prod.fst/\m∉(yC h made).map Prod.fst):=λhm=>by rcases wZ.1 hm with h1|h1;{rcases hset h1 with⟨n,o',h2,h3,h4⟩|⟨h2,h3⟩;{exact .inl ⟨n,o',Zk made h2,h3,h4⟩};{refine .inr ⟨h2,h3,λhd=>?_⟩;obtain⟨n,o,q1,q2⟩:=hmn hd;exact hnew q1 h2 q2}};{obtain⟨n,o',h2,h3,h4⟩:=kR.1 h1;exact .inl ⟨n,o',nA kept' h2,h3,h4⟩}
 have hownF:∀ {n o b},(n,o)∈kept'++made->Own βf (h n) (xY (ren h) o) b->Own β' n o b:=λhm hb=>by rcases hb with hb|⟨i,h1,h2⟩;{exact .inl (by rw[<-hf1 _ _ hm];exact hb)};{exact .inr ⟨i,(jP _ _ i).1 h1,by rw[<-hf2 _ _ i hm];exact h2⟩}
 have hownO:∀ {m x b},m∉(yC h kept').map Prod.fst->m∉(yC h made).map Prod.fst->Own βf m x b->Own β m x b:=λh1 h2 hb=>by rcases hb with hb|⟨i,h3,h4⟩;{exact .inl (by rw[<-hf3 _ (hno h1 h2)];exact hb)};{exact .inr ⟨i,h3,by rw[<-hf4 _ i (hno h1 h2)];exact h4⟩}
 have hsim:Sim w0 S0 K0 N (λt=>bG ((yC h eaten).map Prod.fst) (τ t)) (rB h (y6 (bG ((yC h eaten).map Prod.fst)) (gJ ((yC h eaten).map Prod.fst) objs)) kept'++yC h made) a w' S' βf:=by
  refine⟨hs.dfr,hs.sz,hld,λt=>?_,⟨?_,?_,?_,?_⟩,?_,?_⟩;{have h1:Rep w' S' β (a.tmps.getD t undef) (bG ((yC h eaten).map Prod.fst) (τ t)):=Xi _ ((hs.tmp t).evo hevo hsub);exact h1.free hL λd hd=>by obtain⟨n,o,q1,rfl⟩:=hmn hd;exact (hfr q1).1 t};{rw[qS,Yf hkin',l9];refine⟨hmnd,fO hnd3,λx hx y hy e=>?_⟩;obtain⟨n,o,q1,q2⟩:=hmn hy;obtain⟨⟨q,z⟩,q3,q4⟩:=y9.1 hx;simp only at q4;exact hnew q1 q3 (by rw[q4,e,q2])};{intro m x hm;rcases hall hm with⟨n,o',h1,rfl,rfl⟩|⟨h1,h2,h3⟩;{obtain⟨g1,g2⟩:=XE hclo h1;exact Cz (L:=bR (kept'++made)) (λk hk=>by obtain⟨y,hy⟩:=XK hk;exact hf1 k y hy) g2 (hf1 n o' h1) (λi=>hf2 n o' i h1) (λi=>Cy g1) (ho'.at_ n o' h1)};{obtain⟨⟨x',h4,rfl⟩,h5⟩:=hmid h1;have hat:=((hs.obj.at_ m x' h4).evo hevo λb hb=>l.same b (hs.obj.un _ _ b h4 hb).2 (hnblk h4 h5 h2 hb)).mono hsub;exact (hat.map (eO _) λv x hx=>Xi _ hx).free hL h3 (λi=>hf4 m i (hno h2 h3)) λd hd=>by obtain⟨n,o,q1,rfl⟩:=hmn hd;exact (yY (hfr q1).2 h1).2}};{intro m x b hm hβ;rcases hall hm with⟨n,o',h1,rfl,rfl⟩|⟨h1,h2,h3⟩;{obtain⟨g1,g2⟩:=ho'.un n o' b h1 (hownF h1 hβ);exact⟨λi hS=>r5 (g1 i hS),g2⟩};{obtain⟨⟨x',h4,rfl⟩,h5⟩:=hmid h1;have hb:=v4 (hownO h2 h3 hβ);obtain⟨q1,q2⟩:=hs.obj.un m x' b h4 hb;exact⟨λi hS=>r5 (q1 i (l.old b i q2 (hnblk h4 h5 h2 hb) hS)),f7 q2 l.size⟩}}
  ·have cross:∀ {n o m x b},(n,o)∈kept'++made->Own β' n o b->(m,x)∈(y6 (bG ((yC h eaten).map Prod.fst)) (gJ ((yC h eaten).map Prod.fst) objs))->m∉(yC h kept').map Prod.fst->Own β m x b->False:=λhn hb hm hk hb'=>by obtain⟨⟨x',h4,rfl⟩,h5⟩:=hmid hm;have hb'':=v4 hb';rcases hmd _ _ _ hn hb with g|g;{have:=(hs.obj.un _ x' _ h4 hb'').2;omega};{exact hnblk h4 h5 hk hb'' g}
   (intro m x m' x' b hm hm' hβ hβ';rcases hall hm with⟨n,o',h1,rfl,rfl⟩|⟨h1,h2,h3⟩ <;> rcases hall hm' with⟨n',o'',h4,rfl,rfl⟩|⟨h4,h5,h6⟩);{rw[ho'.inj _ _ _ _ b h1 h4 (hownF h1 hβ) (hownF h4 hβ')]}
   {exact (cross h1 (hownF h1 hβ) h4 h5 (hownO h5 h6 hβ')).elim};{exact (cross h4 (hownF h4 hβ') h1 h2 (hownO h2 h3 hβ)).elim};{obtain⟨⟨y,h7,rfl⟩,_⟩:=hmid h1;obtain⟨⟨y',h8,rfl⟩,_⟩:=hmid h4;exact hs.obj.inj _ _ _ _ b h7 h8 (v4 (hownO h2 h3 hβ)) (v4 (hownO h5 h6 hβ'))}
  {intro m x b hm hβ;rcases hall hm with⟨n,o',h1,rfl,rfl⟩|⟨h1,h2,h3⟩;{rcases hmd n o' b h1 (hownF h1 hβ) with g|g;{exact .inl (vF hs.ld.size g)};{exact (hblk b g).2.2}};{obtain⟨⟨x',h4,rfl⟩,h5⟩:=hmid h1;exact hs.own m x' b h4 (v4 (hownO h2 h3 hβ))}};{intro m x hm hb;rcases hall hm with⟨n,o',h1,rfl,rfl⟩|⟨h1,h2,h3⟩;{rcases wZ.1 h1 with h2|h2;{obtain⟨x',h3⟩:=YM hnk h2;rw[hf1 n o' h1,hβk' n o' h2];exact hs.keep _ _ (hmemo (Zk eaten h3)).1 hb};{have:=uL (hfr h2).2;omega}};{obtain⟨⟨x',h4,rfl⟩,h5⟩:=hmid h1;rw[hf3 m (hno h2 h3)];exact hs.keep m x' h4 hb}}
 have hfin:Rep w' S' βf v (ren h r):=UH (l:=bR (kept'++made)) (λn hn=>by obtain⟨x,hm⟩:=XK hn;exact hf1 n x hm) hrep hnm;exact hk _ _ _ _ hsim hfin
theorem Jd {ps:PS}{o:Oper}{c:Call}{f:Operand}(hop:o.op=.call c)(hcl:c.callee=.value f)(hd:∀ t,o.dst=some t->t<N){K:PS->Prop}{Km:Act->World->Prop}{Q:Exit->Act->World->Prop}(hs:Sim w0 S0 K0 N (zD ps.tmps) ps.objs a w S β) {g:FuncId} {caps:List PV} (hf:ev (zD ps.tmps) f=.fn g caps) {cargs:List PV} {kept eaten:List (Nat×Obj')} {r:PV} {kept' made:List (Nat×Obj')} (hle:LeL (evs (ev (zD ps.tmps)) c.args.toList++caps) (iJ h cargs)) (hso:Sound g cargs kept eaten r kept' made) (hobj:uA h ps.objs (kept++eaten)) (hnd1:ndO (yC h (kept++eaten))=true) (hnd2:ndO (kept++eaten)=true) (hclo:cK (bR (kept'++made)) (kept'++made)=true) (hnd3:ndO (yC h made)=true) (hfree:aK h (rQ h eaten ps) made=true) (hlv:yX lv cargs=true) (hlr:lv r=true) (hnm:nmIn (bR (kept'++made)) r=true) (hK:K (put (aD h eaten kept' made ps) o.dst (ren h r))) (hk:∀ ps' a' w' S' β',K ps'->Sim w0 S0 K0 N (zD ps'.tmps) ps'.objs a' w' S' β'->Km a' w'):o.wp Pg a w Km Q:=by
 refine WH hop hcl hs hf hle hso hobj hnd1 hnd2 hclo hnd3 (λhm=>?_) hlv hlr hnm λw' S' β' v hsim hfin=>?_;{have:=Yk hfree hm;simp only[yO,rQ,xA] at this;refine⟨λt=>?_,this.2⟩;rw[<-uJ _ (eO _)];grind [vP]}
 ·(have e:(λt=>bG ((yC h eaten).map Prod.fst) (zD ps.tmps t))=zD (aD h eaten kept' made ps).tmps:=by funext t;exact (uJ _ (eO _) _ _).symm);rw[e] at hsim;exact hk _ _ _ _ _ hK (vC (ps:=aD h eaten kept' made ps) hsim o.dst hd hfin)
theorem Gg:∀ (l:List PV),wW (λv=>v) l=l
 |[]=>rfl| v::r=>by simp only[wW,Gg r]
theorem Gf:∀ (l:List (PV×(Unit->Nat))),gG (λv=>v) l=l
 |[]=>rfl| (v,k)::r=>by simp only[gG,Gf r]
theorem Gd:∀ (l:List (Nat×Obj')),y6 (λv=>v) l=l
 |[]=>rfl| (n,o)::r=>by have:=Gd r;cases o <;> simp only[y6,Gg,Gf,this]
theorem VA:∀ {l:List (Nat×Obj')} {n:Nat} {o:Obj'},yK l n=some o->setO l n o=l
 |[],n,o,h=>by cases h
 |(u,x)::r,n,o,h=>by
  simp only[yK] at h;simp only[setO];cases hu:nqb u n with
  |true =>
   simp_all
  |false =>
   rw[hu] at h;simp only;rw[VA h]
theorem Xh:∀ {kept l:List (Nat×Obj')},uA h l kept->rB h l kept=l
 |[],l,_=>rfl| (n,o)::r,l,H=>by simp only[rB];rw[VA H.1.1];exact Xh H.2
theorem Je {o:Oper}{c:Call}{f:Operand}(hop:o.op=.call c)(hcl:c.callee=.value f){Km:Act->World->Prop}{Q:Exit->Act->World->Prop}(hs:Sim w0 S0 K0 N τ objs a w S β) {g:FuncId} {caps:List PV} (hf:ev τ f=.fn g caps) {cargs:List PV} {kept:List (Nat×Obj')} {r:PV} (hle:LeL (evs (ev τ) c.args.toList++caps) (iJ h cargs)) (hso:Sound g cargs kept [] r kept []) (hobj:uA h objs kept) (hnd1:ndO (yC h kept)=true) (hnd2:ndO kept=true) (hclo:cK (bR kept) kept=true) (hlv:yX lv cargs=true) (hlr:lv r=true) (hnm:nmIn (bR kept) r=true) (hk:∀ w' S' β' v,Sim w0 S0 K0 N τ objs a w' S' β'->Rep w' S' β' v (ren h r)->Km (a.put o.dst v) w'):o.wp Pg a w Km Q:=by
 refine WH (eaten:=[]) (made:=[]) hop hcl hs hf hle hso (by grind) (by grind) (by grind) (by grind) rfl (λhm=>by cases hm) hlv hlr (by grind) λw' S' β' v hsim hfin=>?_;have e:rB h (y6 (bG ((yC h []).map Prod.fst)) (gJ ((yC h []).map Prod.fst) objs)) kept++yC h []=objs:=by show rB h (y6 (λv=>v) objs) kept++[]=objs;rw[vM,Gd,Xh hobj]
 rw[e] at hsim;exact hk _ _ _ _ hsim hfin
end
end Go.Proofs.YtboocdbmnfjomaaGreat
